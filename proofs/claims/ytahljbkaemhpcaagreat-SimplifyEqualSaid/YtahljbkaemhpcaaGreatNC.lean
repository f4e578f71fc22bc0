/- One thing of a block is changed: the arguments of an edge. -/
import Derived.Test.YtahljbkaemhpcaaGreatN7
namespace Go.Proofs.YtahljbkaemhpcaaGreat
open Go.RowKit
set_option linter.unusedVariables false
/-- An operation is taken first: it is found by its place in the list. -/
theorem take_at {P : Program} {ops : Array Oper} {Q : Exit → Act → World → Prop} {md : Region.Mode} {S : World → Prop} {i n : Nat} {oi : Oper} {l : List Oper} {v : Value} {li : Array Bool} {a : Act} {w : World} (hl : List.drop i ops.toList = oi :: l)
    (hs : Region.noSelect ops = true) (hf : Region.free md ops li i = true) (hr : (Region.ready md ops li).contains i = true) (hQ : ∀ c a w, Q (.panic c) (a.put oi.dst v) w → Q (.panic c) a w)
    (hw : Region.wanted oi (yielded ops a.tmps) = true) (hy : ∀ w, S w → (execOp a.eval oi).run P w = .ok (.value v) w) (hS : S w)
    (h : wpAnyH P md ops Q S n (li.setIfInBounds i true) (a.put oi.dst v) w) : wpAnyH P md ops Q S (n + 1) li a w := by
  have hi : ops[i]? = some oi := by
    rw [← Array.getElem?_toList, ← List.head?_drop, hl]; rfl
  exact wpAnyH_take hi hs hf hr hQ (Or.inl ⟨hw, hy⟩) hS h
/-- One of the operations that may come up next. -/
theorem next_at {P : Program} {ops : Array Oper} {Q : Exit → Act → World → Prop} {md : Region.Mode} {S : World → Prop} {i n : Nat} {oi : Oper} {l : List Oper} {li : Array Bool} {a : Act} {w : World} {rs : List Nat} (hl : List.drop i ops.toList = oi :: l)
    (h : ∀ K' : Act → World → Prop, Shut (∀ a w, S w → (S w → wpAnyH P md ops Q S n (li.setIfInBounds i true) a w) → K' a w) → if Region.wanted oi (yielded ops a.tmps) = true then Oper.wp P oi a w K' Q else K' (a.put oi.dst undef) w)
    (hs : AllReadyH P md ops Q S n li a w rs) : AllReadyH P md ops Q S n li a w (i :: rs) := by
  have hi : ops[i]? = some oi := by
    rw [← Array.getElem?_toList, ← List.head?_drop, hl]; rfl
  exact AllReadyH.cons hi h hs
set_option maxRecDepth 100000 in
set_option maxHeartbeats 8000000 in
theorem spoil12 (B K : Nat) (w : World) (g j : Nat) (cs : Array Value) (nn : Nat) (hw : WT B K w) (hB : B ≤ g) (hBs : B ≤ w.heap.size) (hg : w.heap[g]? = some (.cells cs 46 (0, 0))) (hj : j * 5 + 5 ≤ cs.size) (hK : K + 2 ≤ big) (hn : nn ≤ 65535) :
    Calls Tryz.prog 18 #[.pointer (some ⟨g, j * 5, none⟩), .int .i64 12, .int .i64 nn] w (fun e w' => e = .returned (.tuple #[]) ∧ TyS B (K + 2) w w') := by
  have hKb : K + 2 ≤ 1073741824 := hK
  obtain ⟨A0, n0, k0, A1, n1, k1, z2, z3, A4, n4, k4, b0, b1, b2, b3, b4, s0, s1, s4⟩ := block_cells (n := 0) hw hB hg hj
  have v0 : w.frozen? ⟨g, j * 5, none⟩ = false := free_of hg
  have v1 : w.frozen? ⟨g, j * 5 + 1, none⟩ = false := free_of hg
  have v2 : w.frozen? ⟨g, j * 5 + 2, none⟩ = false := free_of hg
  have v3 : w.frozen? ⟨g, j * 5 + 3, none⟩ = false := free_of hg
  have v4 : w.frozen? ⟨g, j * 5 + 4, none⟩ = false := free_of hg
  have HW := Lib.hid hw; have HG := Lib.hid hg; have S0 := Lib.hid s0; have S1 := Lib.hid s1; have S4 := Lib.hid s4
  have hn1b : n1 ≤ K := s1.1
  clear hw hg s0 s1 s4
  go_enter Tryz.func18, Tryz.ntmps18
  go_upto_if 14 with fail
  go_cut [] (fun wx => TyS B (K + 1) w wx)
  case first =>
    by_cases h0 : 0 < n1
    · have h0n : (n1 : Int) ≠ 0 := by omega
      go_wp2_with fail
      all_goals go_meet
      all_goals exact (TyS.start HW.out).more (Nat.le_succ K)
    · have h0' : decide (0 < n1) = false := by simp; omega
      go_wp2_with fail
      go_meet
      exact (TyS.start HW.out).more (Nat.le_succ K)
  case rest =>
    have hsz' : B ≤ wc.heap.size := by
      obtain ⟨cs', hg', _⟩ := hcut.sh g cs 46 _ HG.out
      exact Nat.le_of_lt (Nat.lt_of_le_of_lt hB (heap_lt hg'))
    obtain ⟨cs', hg', hsz⟩ := hcut.sh g cs 46 _ HG.out
    clear b0 b1 b2 b3 b4 v0 v1 v2 v3 v4 S0 S1 S4
    clear A0 n0 k0 A1 n1 k1 z2 z3 A4 n4 k4 hn1b
    obtain ⟨A0, n0, k0, A1, n1, k1, z2, z3, A4, n4, k4, b0, b1, b2, b3, b4, s0, s1, s4⟩ := block_cells (n := 0) (j := j) hcut.wt hB hg' (by omega)
    have v0 : wc.frozen? ⟨g, j * 5, none⟩ = false := free_of hg'
    have v1 : wc.frozen? ⟨g, j * 5 + 1, none⟩ = false := free_of hg'
    have v2 : wc.frozen? ⟨g, j * 5 + 2, none⟩ = false := free_of hg'
    have v3 : wc.frozen? ⟨g, j * 5 + 3, none⟩ = false := free_of hg'
    have v4 : wc.frozen? ⟨g, j * 5 + 4, none⟩ = false := free_of hg'
    have hgs' : g < wc.heap.size := heap_lt hg'
    by_cases h4 : 0 < n4
    · obtain ⟨q, rfl⟩ : ∃ q, n4 = q + 1 := ⟨n4 - 1, by omega⟩
      obtain ⟨zz, e3⟩ : ∃ z, (nn : Int).tmod 40 = z := ⟨_, rfl⟩
      have hqK : q + 1 ≤ K + 1 := s4.1
      have e5 : IntKind.i64.wrap (((q + 1 : Nat) : Int) - 1) = (q : Int) := by rw [IntWalk.i64_in _ (by omega)]; omega
      have e6 : IntKind.i64.wrap ((q : Int) + 1 - 1) = (q : Int) := by rw [IntWalk.i64_in _ (by omega)]; omega
      have e7 : IntKind.i64.wrap (q : Int) = (q : Int) := IntWalk.i64_in _ (by omega)
      have r0 : (0 : Int) ≤ (q : Int) := by omega
      have r1 : (q : Int) < ((q + 1 : Nat) : Int) := by omega
      have r2 : (q : Int) < (q : Int) + 1 := by omega
      obtain ⟨gE, y0, Aa, na, ka, csE, rfl, hBE, hnk, hgE, p0, p1, sa⟩ := edge_cells (q := q) hcut.wt s4 (by omega)
      have q1 : wc.frozen? ⟨gE, q * 2 + 1, none⟩ = false := free_of hgE
      have hgEs : gE < wc.heap.size := heap_lt hgE
      have hne : g ≠ gE := by
        rintro rfl
        rw [hgE] at hg'; cases hg'
      have b4a : (wc.alloc (.cells #[.int .i64 zz] 3)).cell? ⟨g, j * 5 + 4, none⟩ = some (.slice (some ⟨gE, 0, none⟩) (q + 1) k4) := (cell_alloc hgs').trans b4
      have p1a : (wc.alloc (.cells #[.int .i64 zz] 3)).cell? ⟨gE, q * 2 + 1, none⟩ = some (.slice Aa na ka) := (cell_alloc hgEs).trans p1
      have t1 : TyS B (K + 2) w (wc.drew.alloc (.cells #[.int .i64 zz] 3)) := ((hcut.more (Nat.le_succ _)).drew).alloc hsz' (int_typed _)
      have sva : SlV B (K + 2) (wc.drew.alloc (.cells #[.int .i64 zz] 3)) 3 1 (.slice Aa na ka) na := sa.on ((Shape.refl wc).drew.alloc _) (Nat.le_succ _)
      have hx1 : SlV B (K + 2) (wc.drew.alloc (.cells #[.int .i64 zz] 3)) 3 1 (.slice (some ⟨wc.heap.size, 0, none⟩) 1 1) 1 := newRow (w := wc.drew) hsz' (by simp) (by omega)
      have hnaK : na + 1 ≤ K + 2 := by have := sa.1; omega
      have hK' : K + 2 ≤ 34359738368 := by omega
      have T1 := Lib.hid t1; have HG' := Lib.hid hg'; have HGE := Lib.hid hgE
      clear t1 hcut hg' s0 s1 s4 hgE sa
      go_upto_region 34 with fail
      refine wp_region_noPanic ?_
      refine wp_region_held_drew (S := fun w' => w'.cell? ⟨g, j * 5 + 4, none⟩ = some (.slice (some ⟨gE, 0, none⟩) (q + 1) k4)) (by kernel_rfl) (by exact b4) (fun hHeld => ?_)
      refine take_at (i := 0) (v := ?_) rfl (by kernel_rfl) (by kernel_rfl) (by kernel_rfl) (fun _ _ _ h => h) (by rfl) ?_ (by assumption) ?_
      rotate_left
      · intro w' hSw; (try dsimp only at hSw); go_simp; (try with_reducible rfl)
      (try simp only [Act.put, List.setIfInBounds_toArray, List.set_cons_zero, List.set_cons_succ])
      refine take_at (i := 1) (v := ?_) rfl (by kernel_rfl) (by kernel_rfl) (by kernel_rfl) (fun _ _ _ h => h) (by rfl) ?_ (by assumption) ?_
      rotate_left
      · intro w' hSw; (try dsimp only at hSw); go_simp; (try with_reducible rfl)
      (try simp only [Act.put, List.setIfInBounds_toArray, List.set_cons_zero, List.set_cons_succ])
      refine take_at (i := 2) (v := ?_) rfl (by kernel_rfl) (by kernel_rfl) (by kernel_rfl) (fun _ _ _ h => h) (by rfl) ?_ (by assumption) ?_
      rotate_left
      · intro w' hSw; (try dsimp only at hSw); go_simp; (try with_reducible rfl)
      (try simp only [Act.put, List.setIfInBounds_toArray, List.set_cons_zero, List.set_cons_succ])
      refine take_at (i := 3) (v := ?_) rfl (by kernel_rfl) (by kernel_rfl) (by kernel_rfl) (fun _ _ _ h => h) (by rfl) ?_ (by assumption) ?_
      rotate_left
      · intro w' hSw; (try dsimp only at hSw); go_simp; (try with_reducible rfl)
      (try simp only [Act.put, List.setIfInBounds_toArray, List.set_cons_zero, List.set_cons_succ])
      refine take_at (i := 4) (v := ?_) rfl (by kernel_rfl) (by kernel_rfl) (by kernel_rfl) (fun _ _ _ h => h) (by rfl) ?_ (by assumption) ?_
      rotate_left
      · intro w' hSw; (try dsimp only at hSw); go_simp; (try with_reducible rfl)
      (try simp only [Act.put, List.setIfInBounds_toArray, List.set_cons_zero, List.set_cons_succ])
      refine take_at (i := 5) (v := ?_) rfl (by kernel_rfl) (by kernel_rfl) (by kernel_rfl) (fun _ _ _ h => h) (by rfl) ?_ (by assumption) ?_
      rotate_left
      · intro w' hSw; (try dsimp only at hSw); go_simp; (try with_reducible rfl)
      (try simp only [Act.put, List.setIfInBounds_toArray, List.set_cons_zero, List.set_cons_succ])
      refine take_at (i := 6) (v := ?_) rfl (by kernel_rfl) (by kernel_rfl) (by kernel_rfl) (fun _ _ _ h => h) (by rfl) ?_ (by assumption) ?_
      rotate_left
      · intro w' hSw; (try dsimp only at hSw); go_simp; (try with_reducible rfl)
      (try simp only [Act.put, List.setIfInBounds_toArray, List.set_cons_zero, List.set_cons_succ])
      refine take_at (i := 7) (v := ?_) rfl (by kernel_rfl) (by kernel_rfl) (by kernel_rfl) (fun _ _ _ h => h) (by rfl) ?_ (by assumption) ?_
      rotate_left
      · intro w' hSw; (try dsimp only at hSw); go_simp; (try with_reducible rfl)
      (try simp only [Act.put, List.setIfInBounds_toArray, List.set_cons_zero, List.set_cons_succ])
      refine take_at (i := 8) (v := ?_) rfl (by kernel_rfl) (by kernel_rfl) (by kernel_rfl) (fun _ _ _ h => h) (by rfl) ?_ (by assumption) ?_
      rotate_left
      · intro w' hSw; (try dsimp only at hSw); go_simp; (try with_reducible rfl)
      (try simp only [Act.put, List.setIfInBounds_toArray, List.set_cons_zero, List.set_cons_succ])
      refine take_at (i := 9) (v := ?_) rfl (by kernel_rfl) (by kernel_rfl) (by kernel_rfl) (fun _ _ _ h => h) (by rfl) ?_ (by assumption) ?_
      rotate_left
      · intro w' hSw; (try dsimp only at hSw); go_simp; (try with_reducible rfl)
      (try simp only [Act.put, List.setIfInBounds_toArray, List.set_cons_zero, List.set_cons_succ])
      refine take_at (i := 10) (v := ?_) rfl (by kernel_rfl) (by kernel_rfl) (by kernel_rfl) (fun _ _ _ h => h) (by rfl) ?_ (by assumption) ?_
      rotate_left
      · intro w' hSw; (try dsimp only at hSw); go_simp; (try with_reducible rfl)
      (try simp only [Act.put, List.setIfInBounds_toArray, List.set_cons_zero, List.set_cons_succ])
      refine take_at (i := 11) (v := ?_) rfl (by kernel_rfl) (by kernel_rfl) (by kernel_rfl) (fun _ _ _ h => h) (by rfl) ?_ (by assumption) ?_
      rotate_left
      · intro w' hSw; (try dsimp only at hSw); go_simp; (try with_reducible rfl)
      (try simp only [Act.put, List.setIfInBounds_toArray, List.set_cons_zero, List.set_cons_succ])
      refine take_at (i := 12) (v := ?_) rfl (by kernel_rfl) (by kernel_rfl) (by kernel_rfl) (fun _ _ _ h => h) (by rfl) ?_ (by assumption) ?_
      rotate_left
      · intro w' hSw; (try dsimp only at hSw); go_simp; (try with_reducible rfl)
      (try simp only [Act.put, List.setIfInBounds_toArray, List.set_cons_zero, List.set_cons_succ])
      refine take_at (i := 13) (v := ?_) rfl (by kernel_rfl) (by kernel_rfl) (by kernel_rfl) (fun _ _ _ h => h) (by rfl) ?_ (by assumption) ?_
      rotate_left
      · intro w' hSw; (try dsimp only at hSw); go_simp; (try with_reducible rfl)
      (try simp only [Act.put, List.setIfInBounds_toArray, List.set_cons_zero, List.set_cons_succ])
      refine take_at (i := 14) (v := ?_) rfl (by kernel_rfl) (by kernel_rfl) (by kernel_rfl) (fun _ _ _ h => h) (by rfl) ?_ (by assumption) ?_
      rotate_left
      · intro w' hSw; (try dsimp only at hSw); go_simp; (try with_reducible rfl)
      (try simp only [Act.put, List.setIfInBounds_toArray, List.set_cons_zero, List.set_cons_succ])
      refine take_at (i := 15) (v := ?_) rfl (by kernel_rfl) (by kernel_rfl) (by kernel_rfl) (fun _ _ _ h => h) (by rfl) ?_ (by assumption) ?_
      rotate_left
      · intro w' hSw; (try dsimp only at hSw); go_simp; (try with_reducible rfl)
      (try simp only [Act.put, List.setIfInBounds_toArray, List.set_cons_zero, List.set_cons_succ])
      refine take_at (i := 16) (v := ?_) rfl (by kernel_rfl) (by kernel_rfl) (by kernel_rfl) (fun _ _ _ h => h) (by rfl) ?_ (by assumption) ?_
      rotate_left
      · intro w' hSw; (try dsimp only at hSw); go_simp; (try with_reducible rfl)
      (try simp only [Act.put, List.setIfInBounds_toArray, List.set_cons_zero, List.set_cons_succ])
      refine take_at (i := 17) (v := ?_) rfl (by kernel_rfl) (by kernel_rfl) (by kernel_rfl) (fun _ _ _ h => h) (by rfl) ?_ (by assumption) ?_
      rotate_left
      · intro w' hSw; (try dsimp only at hSw); go_simp; (try with_reducible rfl)
      (try simp only [Act.put, List.setIfInBounds_toArray, List.set_cons_zero, List.set_cons_succ])
      refine take_at (i := 18) (v := ?_) rfl (by kernel_rfl) (by kernel_rfl) (by kernel_rfl) (fun _ _ _ h => h) (by rfl) ?_ (by assumption) ?_
      rotate_left
      · intro w' hSw; (try dsimp only at hSw); go_simp; (try with_reducible rfl)
      (try simp only [Act.put, List.setIfInBounds_toArray, List.set_cons_zero, List.set_cons_succ])
      refine take_at (i := 19) (v := ?_) rfl (by kernel_rfl) (by kernel_rfl) (by kernel_rfl) (fun _ _ _ h => h) (by rfl) ?_ (by assumption) ?_
      rotate_left
      · intro w' hSw; (try dsimp only at hSw); go_simp; (try with_reducible rfl)
      (try simp only [Act.put, List.setIfInBounds_toArray, List.set_cons_zero, List.set_cons_succ])
      refine take_at (i := 20) (v := ?_) rfl (by kernel_rfl) (by kernel_rfl) (by kernel_rfl) (fun _ _ _ h => h) (by rfl) ?_ (by assumption) ?_
      rotate_left
      · intro w' hSw; (try dsimp only at hSw); go_simp; (try with_reducible rfl)
      (try simp only [Act.put, List.setIfInBounds_toArray, List.set_cons_zero, List.set_cons_succ])
      refine take_at (i := 21) (v := ?_) rfl (by kernel_rfl) (by kernel_rfl) (by kernel_rfl) (fun _ _ _ h => h) (by rfl) ?_ (by assumption) ?_
      rotate_left
      · intro w' hSw; (try dsimp only at hSw); go_simp; (try with_reducible rfl)
      (try simp only [Act.put, List.setIfInBounds_toArray, List.set_cons_zero, List.set_cons_succ])
      refine take_at (i := 22) (v := ?_) rfl (by kernel_rfl) (by kernel_rfl) (by kernel_rfl) (fun _ _ _ h => h) (by rfl) ?_ (by assumption) ?_
      rotate_left
      · intro w' hSw; (try dsimp only at hSw); go_simp; (try with_reducible rfl)
      (try simp only [Act.put, List.setIfInBounds_toArray, List.set_cons_zero, List.set_cons_succ])
      refine take_at (i := 23) (v := ?_) rfl (by kernel_rfl) (by kernel_rfl) (by kernel_rfl) (fun _ _ _ h => h) (by rfl) ?_ (by assumption) ?_
      rotate_left
      · intro w' hSw; (try dsimp only at hSw); go_simp; (try with_reducible rfl)
      (try simp only [Act.put, List.setIfInBounds_toArray, List.set_cons_zero, List.set_cons_succ])
      refine take_at (i := 24) (v := ?_) rfl (by kernel_rfl) (by kernel_rfl) (by kernel_rfl) (fun _ _ _ h => h) (by rfl) ?_ (by assumption) ?_
      rotate_left
      · intro w' hSw; (try dsimp only at hSw); go_simp; (try with_reducible rfl)
      (try simp only [Act.put, List.setIfInBounds_toArray, List.set_cons_zero, List.set_cons_succ])
      refine take_at (i := 25) (v := ?_) rfl (by kernel_rfl) (by kernel_rfl) (by kernel_rfl) (fun _ _ _ h => h) (by rfl) ?_ (by assumption) ?_
      rotate_left
      · intro w' hSw; (try dsimp only at hSw); go_simp; (try with_reducible rfl)
      (try simp only [Act.put, List.setIfInBounds_toArray, List.set_cons_zero, List.set_cons_succ])
      refine take_at (i := 27) (v := ?_) rfl (by kernel_rfl) (by kernel_rfl) (by kernel_rfl) (fun _ _ _ h => h) (by rfl) ?_ (by assumption) ?_
      rotate_left
      · intro w' hSw; (try dsimp only at hSw); go_simp; (try with_reducible rfl)
      (try simp only [Act.put, List.setIfInBounds_toArray, List.set_cons_zero, List.set_cons_succ])
      refine take_at (i := 28) (v := ?_) rfl (by kernel_rfl) (by kernel_rfl) (by kernel_rfl) (fun _ _ _ h => h) (by rfl) ?_ (by assumption) ?_
      rotate_left
      · intro w' hSw; (try dsimp only at hSw); go_simp; (try with_reducible rfl)
      (try simp only [Act.put, List.setIfInBounds_toArray, List.set_cons_zero, List.set_cons_succ])
      refine wpAnyH_ready (rs := [26, 29]) (by kernel_rfl) (by simp) ?_
      refine next_at (i := 26) rfl (fun KK hKK => ?_) (next_at (i := 29) rfl (fun KK hKK => ?_) AllReadyH.nil)
      case refine_1 =>
        go_simp
        refine hKK.out _ _ (by exact b4) (fun hHeld => ?_)
        clear hKK KK
        (try simp only [Act.put, List.setIfInBounds_toArray, List.set_cons_zero, List.set_cons_succ])
        refine wpAnyH_ready (rs := [29]) (by kernel_rfl) (by simp) ?_
        refine next_at (i := 29) rfl (fun KK hKK => ?_) AllReadyH.nil
        go_simp
        refine hKK.out _ _ (by exact b4a) (fun hHeld => ?_)
        clear hKK KK
        (try simp only [Act.put, List.setIfInBounds_toArray, List.set_cons_zero, List.set_cons_succ])
        refine wpAnyH_ready (rs := [30]) (by kernel_rfl) (by simp) ?_
        refine next_at (i := 30) rfl (fun KK hKK => ?_) AllReadyH.nil
        refine step_append_el (w := wc.drew.alloc (.cells #[.int .i64 zz] 3)) (P := Tryz.prog) (B := B) (K := K + 2) (K' := K + 2) (n := na) (m := 1) rfl (.tmp 241) (.tmp 244) rfl el22 T1.out.wt rfl rfl sva hx1 hnaK (Nat.le_refl _) hK' (by simp; omega) ?_; intro v9 w9 happ; obtain ⟨A9, c9, rfl⟩ := happ.slv.form; have hb9 : w9.heap[g]? = some (.cells cs' 46 (0, 0)) := happ.other sva ((Below.heap_alloc wc.drew _ g hgs').trans HG'.out) (by decide); have ho9 : w9.heap[gE]? = some (.cells csE 49 (0, 0)) := happ.other sva ((Below.heap_alloc wc.drew _ gE hgEs).trans HGE.out) (by decide); have b4b : w9.cell? ⟨g, j * 5 + 4, none⟩ = some (.slice (some ⟨gE, 0, none⟩) (q + 1) k4) := (cell_of hb9).trans ((cell_of HG'.out).symm.trans b4); have p1b : w9.cell? ⟨gE, q * 2 + 1, none⟩ = some (.slice Aa na ka) := (cell_of ho9).trans ((cell_of HGE.out).symm.trans p1); have q1b : w9.frozen? ⟨gE, q * 2 + 1, none⟩ = false := free_of ho9; have HFIN := Lib.hid ((T1.out.app happ sva (by simp; omega)).set (o := q * 2 + 1) (v := .slice A9 (na + 1) c9) ho9 hBE (fun ck hl => by rw [lay2] at hl; cases hl; exact ⟨_, happ.slv⟩)); clear happ hb9 ho9
        refine hKK.out _ _ (by exact b4b) (fun hHeld => ?_)
        clear hKK KK
        (try simp only [Act.put, List.setIfInBounds_toArray, List.set_cons_zero, List.set_cons_succ])
        refine take_at (i := 31) (v := ?_) rfl (by kernel_rfl) (by kernel_rfl) (by kernel_rfl) (fun _ _ _ h => h) (by rfl) ?_ (by assumption) ?_
        rotate_left
        · intro w' hSw; (try dsimp only at hSw); go_simp; (try with_reducible rfl)
        (try simp only [Act.put, List.setIfInBounds_toArray, List.set_cons_zero, List.set_cons_succ])
        refine take_at (i := 32) (v := ?_) rfl (by kernel_rfl) (by kernel_rfl) (by kernel_rfl) (fun _ _ _ h => h) (by rfl) ?_ (by assumption) ?_
        rotate_left
        · intro w' hSw; (try dsimp only at hSw); go_simp; (try with_reducible rfl)
        (try simp only [Act.put, List.setIfInBounds_toArray, List.set_cons_zero, List.set_cons_succ])
        refine wpAnyH_ready (rs := [33]) (by kernel_rfl) (by simp) ?_
        refine next_at (i := 33) rfl (fun KK hKK => ?_) AllReadyH.nil
        go_simp
        refine hKK.out _ _ (by exact (cell_set_ne hne).trans b4b) (fun hHeld => ?_)
        clear hKK KK
        (try simp only [Act.put, List.setIfInBounds_toArray, List.set_cons_zero, List.set_cons_succ])
        refine wpAnyH_done (by kernel_rfl) ?_ _
        refine NoPanic.normal ?_
        (try go_wp2_with fail)
        go_end0
        exact ⟨rfl, HFIN.out⟩
      case refine_2 =>
        go_simp
        refine hKK.out _ _ (by exact b4a) (fun hHeld => ?_)
        clear hKK KK
        (try simp only [Act.put, List.setIfInBounds_toArray, List.set_cons_zero, List.set_cons_succ])
        refine wpAnyH_ready (rs := [26]) (by kernel_rfl) (by simp) ?_
        refine next_at (i := 26) rfl (fun KK hKK => ?_) AllReadyH.nil
        go_simp
        refine hKK.out _ _ (by exact b4a) (fun hHeld => ?_)
        clear hKK KK
        (try simp only [Act.put, List.setIfInBounds_toArray, List.set_cons_zero, List.set_cons_succ])
        refine wpAnyH_ready (rs := [30]) (by kernel_rfl) (by simp) ?_
        refine next_at (i := 30) rfl (fun KK hKK => ?_) AllReadyH.nil
        refine step_append_el (w := wc.drew.alloc (.cells #[.int .i64 zz] 3)) (P := Tryz.prog) (B := B) (K := K + 2) (K' := K + 2) (n := na) (m := 1) rfl (.tmp 241) (.tmp 244) rfl el22 T1.out.wt rfl rfl sva hx1 hnaK (Nat.le_refl _) hK' (by simp; omega) ?_; intro v9 w9 happ; obtain ⟨A9, c9, rfl⟩ := happ.slv.form; have hb9 : w9.heap[g]? = some (.cells cs' 46 (0, 0)) := happ.other sva ((Below.heap_alloc wc.drew _ g hgs').trans HG'.out) (by decide); have ho9 : w9.heap[gE]? = some (.cells csE 49 (0, 0)) := happ.other sva ((Below.heap_alloc wc.drew _ gE hgEs).trans HGE.out) (by decide); have b4b : w9.cell? ⟨g, j * 5 + 4, none⟩ = some (.slice (some ⟨gE, 0, none⟩) (q + 1) k4) := (cell_of hb9).trans ((cell_of HG'.out).symm.trans b4); have p1b : w9.cell? ⟨gE, q * 2 + 1, none⟩ = some (.slice Aa na ka) := (cell_of ho9).trans ((cell_of HGE.out).symm.trans p1); have q1b : w9.frozen? ⟨gE, q * 2 + 1, none⟩ = false := free_of ho9; have HFIN := Lib.hid ((T1.out.app happ sva (by simp; omega)).set (o := q * 2 + 1) (v := .slice A9 (na + 1) c9) ho9 hBE (fun ck hl => by rw [lay2] at hl; cases hl; exact ⟨_, happ.slv⟩)); clear happ hb9 ho9
        refine hKK.out _ _ (by exact b4b) (fun hHeld => ?_)
        clear hKK KK
        (try simp only [Act.put, List.setIfInBounds_toArray, List.set_cons_zero, List.set_cons_succ])
        refine take_at (i := 31) (v := ?_) rfl (by kernel_rfl) (by kernel_rfl) (by kernel_rfl) (fun _ _ _ h => h) (by rfl) ?_ (by assumption) ?_
        rotate_left
        · intro w' hSw; (try dsimp only at hSw); go_simp; (try with_reducible rfl)
        (try simp only [Act.put, List.setIfInBounds_toArray, List.set_cons_zero, List.set_cons_succ])
        refine take_at (i := 32) (v := ?_) rfl (by kernel_rfl) (by kernel_rfl) (by kernel_rfl) (fun _ _ _ h => h) (by rfl) ?_ (by assumption) ?_
        rotate_left
        · intro w' hSw; (try dsimp only at hSw); go_simp; (try with_reducible rfl)
        (try simp only [Act.put, List.setIfInBounds_toArray, List.set_cons_zero, List.set_cons_succ])
        refine wpAnyH_ready (rs := [33]) (by kernel_rfl) (by simp) ?_
        refine next_at (i := 33) rfl (fun KK hKK => ?_) AllReadyH.nil
        go_simp
        refine hKK.out _ _ (by exact (cell_set_ne hne).trans b4b) (fun hHeld => ?_)
        clear hKK KK
        (try simp only [Act.put, List.setIfInBounds_toArray, List.set_cons_zero, List.set_cons_succ])
        refine wpAnyH_done (by kernel_rfl) ?_ _
        refine NoPanic.normal ?_
        (try go_wp2_with fail)
        go_end0
        exact ⟨rfl, HFIN.out⟩
    · have h4' : decide (0 < n4) = false := by simp; omega
      have HC := Lib.hid hcut
      clear hcut
      go_wp2_with fail
      go_end0
      exact ⟨rfl, HC.out.more (Nat.le_succ _)⟩
end Go.Proofs.YtahljbkaemhpcaaGreat
