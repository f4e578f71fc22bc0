/- ordered: nothing is exchanged. -/
import Derived.Test.YtnjdegjpmbdboaaGreatQX
namespace Go.Proofs.YtnjdegjpmbdboaaGreat
open Go.RowKit
set_option linter.unusedVariables false
/-- An operation that is not wanted is taken first. -/
theorem skip_at {P : Program} {ops : Array Oper} {Q : Exit → Act → World → Prop} {md : Region.Mode} {S : World → Prop} {i n : Nat} {oi : Oper} {l : List Oper} {li : Array Bool} {a : Act} {w : World} (hl : List.drop i ops.toList = oi :: l)
    (hs : Region.noSelect ops = true) (hf : Region.free md ops li i = true) (hr : (Region.ready md ops li).contains i = true) (hQ : ∀ c a w, Q (.panic c) (a.put oi.dst undef) w → Q (.panic c) a w)
    (hw : Region.wanted oi (yielded ops a.tmps) = false) (hS : S w)
    (h : wpAnyH P md ops Q S n (li.setIfInBounds i true) (a.put oi.dst undef) w) : wpAnyH P md ops Q S (n + 1) li a w := by
  have hi : ops[i]? = some oi := by
    rw [← Array.getElem?_toList, ← List.head?_drop, hl]; rfl
  exact wpAnyH_take hi hs hf hr hQ (Or.inr ⟨hw, rfl⟩) hS h
set_option maxRecDepth 100000 in
set_option maxHeartbeats 4000000 in
theorem indexInt_none (w : World) (g n c : Nat) (cs : Array Value) (v : Int) (hg : w.heap[g]? = some (.cells cs 3 (0, 0))) (hn : n ≤ 12) (hx : ∀ j, j < n → ∃ x : Int, cs[j]? = some (.int .i64 x) ∧ x ≠ v) :
    Calls Tryz.prog 51 #[.slice (some ⟨g, 0, none⟩) n c, .int .i64 v] w (fun e w' => e = .returned (.int .i64 (-1)) ∧ w' = w) := by
  have HX := Lib.hid hx
  clear hx
  go_enter Tryz.func51, Tryz.ntmps51
  go_wp2_with fail
  go_loopw [8] (fun i wr => ∃ q : Nat, i = .int .i64 q ∧ q ≤ n ∧ wr = w) (fun i _ => n - (intOf i).toNat)
  case atStart => exact ⟨0, rfl, by omega, rfl⟩
  case round =>
    obtain ⟨q, rfl, hq, rfl⟩ := hrel
    by_cases hlt : q < n
    · have hlt' : (q : Int) < (n : Int) := by omega
      have hq0 : (0 : Int) ≤ (q : Int) := by omega
      have hqn : (q : Int) ≤ 12 := by omega
      obtain ⟨x, hx, hne⟩ := HX.out q hlt
      have c0 : wr.cell? ⟨g, q, none⟩ = some (.int .i64 x) := (cell_of hg).trans hx
      have hne' : ¬ v = x := fun h => hne h.symm
      clear hx hne hg
      go_wp2_with fail
      exact ⟨⟨q + 1, rfl, hlt, by first | rfl | trivial⟩, by show n - ((q : Int) + 1).toNat < n - ((q : Int)).toNat; omega⟩
    · have hlt' : ¬ (q : Int) < (n : Int) := by omega
      clear hg
      go_wp2_with fail
      go_ret
      exact ⟨rfl, rfl⟩
set_option maxRecDepth 100000 in
set_option maxHeartbeats 4000000 in
theorem contains_none (w : World) (g n c : Nat) (cs : Array Value) (v : Int) (hg : w.heap[g]? = some (.cells cs 3 (0, 0))) (hn : n ≤ 12) (hx : ∀ j, j < n → ∃ x : Int, cs[j]? = some (.int .i64 x) ∧ x ≠ v) :
    Calls Tryz.prog 91 #[.slice (some ⟨g, 0, none⟩) n c, .int .i64 v] w (fun e w' => e = .returned (.bool false) ∧ w' = w) := by
  have hi := indexInt_none w g n c cs v hg hn hx
  clear hg hx
  go_enter Tryz.func91, Tryz.ntmps91
  go_wp2_with (first
    | (go_at_call 51; with_reducible refine hi.mono ?_; rintro e w6 ⟨rfl, rfl⟩))
  go_ret
  exact ⟨rfl, rfl⟩
set_option maxRecDepth 100000 in
set_option maxHeartbeats 4000000 in
theorem commutes_any (w : World) (c : Int) (h : OkCode c) : Calls Tryz.prog 60 #[.int .i64 c] w (fun e w' => e = .returned (.bool false) ∧ Low w.heap.size w w') := by
  have hl : Low w.heap.size w (w.alloc (.cells #[.int .i64 5, .int .i64 7, .int .i64 9, .int .i64 10, .int .i64 11, .int .i64 15] 3)) := (Low.refl _ _).alloc (Nat.le_refl _) _
  have hc := contains_none (w.alloc (.cells #[.int .i64 5, .int .i64 7, .int .i64 9, .int .i64 10, .int .i64 11, .int .i64 15] 3)) w.heap.size 6 6 _ c (heap_new w _) (by decide) (by
    intro j hj
    have h6 : j = 0 ∨ j = 1 ∨ j = 2 ∨ j = 3 ∨ j = 4 ∨ j = 5 := by omega
    have hco := okcode_cases h
    rcases h6 with rfl | rfl | rfl | rfl | rfl | rfl <;> exact ⟨_, rfl, by omega⟩)
  clear h
  go_enter Tryz.func60, Tryz.ntmps60
  go_wp2_with (first
    | (go_at_call 91; with_reducible refine hc.mono ?_; rintro e w6 ⟨rfl, rfl⟩))
  go_ret
  exact ⟨rfl, hl⟩
set_option maxRecDepth 100000 in
set_option maxHeartbeats 8000000 in
theorem ordered_any (w : World) (g cg : Nat) (Pp : Option Addr) (pc : Nat) (A : Option Addr) (n c : Nat) (T : Option Addr) (tc : Nat) (l : List Opn) (h : FnAt w g Pp pc A n c T tc l) :
    Calls Tryz.prog 20 #[.agg #[.slice (some ⟨g, 0, none⟩) 1 cg]] w (fun e w' => Low w.heap.size w w' ∧ e = .returned (.agg #[.slice (some ⟨g, 0, none⟩) 1 cg])) := by
  have hmf : ∀ (fn : Fn) (first cap : Array Value) (w : World), (Instr.makeFunc fn first cap).run Tryz.prog w = .ok (.func fn first cap) w := fun _ _ _ _ => rfl
  have hmm : ∀ u : World, (Instr.makeMap 94 none).run Tryz.prog u = .ok (.map (some u.heap.size)) (u.alloc (.map #[] 0)) := fun u => by kernel_rfl
  have H := Lib.hid h
  have hn12 : n ≤ 12 := h.small
  clear h
  obtain ⟨S, hS⟩ : ∃ S, w.heap.size = S := ⟨_, rfl⟩
  obtain ⟨a1, s1, u1⟩ := alloc_at (.cells #[.slice (some ⟨g, 0, none⟩) 1 cg] 39) hS
  obtain ⟨a2, s2, u2⟩ := alloc_at (.cells #[.slice none 0 0] 39) s1
  obtain ⟨a3, s3, u3⟩ := alloc_at (.map #[] 0) s2
  obtain ⟨a4, s4, u4⟩ := alloc_at (.cells #[.map (some (S + 1 + 1))] 94) s3
  have l4 : Low w.heap.size w ((((w.alloc (.cells #[.slice (some ⟨g, 0, none⟩) 1 cg] 39)).alloc (.cells #[.slice none 0 0] 39)).alloc (.map #[] 0)).alloc (.cells #[.map (some (S + 1 + 1))] 94)) := (((((Low.refl _ w).alloc (Nat.le_refl _) _).alloc (by omega) _).alloc (by omega) _).alloc (by omega) _)
  have b1 := u4 _ _ (u3 _ _ (u2 _ _ a1))
  have b2 := u4 _ _ (u3 _ _ a2)
  have H4 := Lib.hid (H.out.low l4)
  have L4 := Lib.hid l4
  have HS := Lib.hid hS
  clear u1 u2 u3 u4 a1 a2 a3 a4 s1 s2 s3 s4 l4
  go_enter Tryz.func20, Tryz.ntmps20
  go_upto_region 2 with fail
  clear hS hmm
  obtain ⟨t2, ht2⟩ : ∃ t, t = S + 1 := ⟨_, rfl⟩
  have HT2 := Lib.hid ht2
  obtain ⟨t3, ht3⟩ : ∃ t, t = S + 1 + 1 + 1 := ⟨_, rfl⟩
  rw [← ht3]
  have b2' : ((((w.alloc (.cells #[.slice (some ⟨g, 0, none⟩) 1 cg] 39)).alloc (.cells #[.slice none 0 0] 39)).alloc (.map #[] 0)).alloc (.cells #[.map (some (S + 1 + 1))] 94)).heap[t2]? = some (.cells #[.slice none 0 0] 39 (0, 0)) := by rw [ht2]; exact b2
  clear b2
  generalize (((w.alloc (.cells #[.slice (some ⟨g, 0, none⟩) 1 cg] 39)).alloc (.cells #[.slice none 0 0] 39)).alloc (.map #[] 0)).alloc (.cells #[.map (some (S + 1 + 1))] 94) = w4 at b1 b2' H4 L4 ⊢
  generalize S + 1 + 1 = um at ⊢
  rw [← ht2]
  clear ht2 ht3
  obtain ⟨cs0, r0, r1, r2, r3, r4, r5⟩ := H4.out.row
  have p1 : w4.cell? ⟨g, 1, none⟩ = some (.slice A n c) := (cell_of r0).trans r2
  have y1 : w4.cell? ⟨S, 0, none⟩ = some (.slice (some ⟨g, 0, none⟩) 1 cg) := cell_of b1
  have B1 := Lib.hid b1; have B2 := Lib.hid b2'
  clear r0 r1 r2 r3 r4 r5 b1 b2'
  go_wp2_with fail
  go_loopw [18] (fun i wx => ∃ q : Nat, i = .int .i64 q ∧ q ≤ n ∧ Low w4.heap.size w4 wx) (fun i _ => n - (intOf i).toNat)
  case atStart => exact ⟨0, rfl, by omega, Low.refl _ _⟩
  case round =>
    obtain ⟨wv, rfl⟩ : ∃ u, u = wr := ⟨_, rfl⟩
    obtain ⟨q, rfl, hq, hL⟩ := hrel
    have hv := H4.out.low hL
    clear p1 y1
    by_cases hlt : q < n
    · have hlt' : (q : Int) < (n : Int) := by omega
      have hq0 : (0 : Int) ≤ (q : Int) := by omega
      have hqn : (q : Int) ≤ 12 := by omega
      obtain ⟨o, ho⟩ : ∃ o, l[q]? = some o := ⟨_, List.getElem?_eq_getElem (by have := hv.ops.1; omega)⟩
      obtain ⟨ga, cs, rfl, hnc, hg, k0, k1, k2, k3, k4, k5⟩ := hv.ops.2 q o ho
      have c0 : wv.cell? ⟨ga, q * 6, none⟩ = some (.int .i64 o.code) := (cell_of hg).trans k0
      have c1 : wv.cell? ⟨ga, q * 6 + 1, none⟩ = some (.int .i64 o.res) := (cell_of hg).trans k1
      have c2 : wv.cell? ⟨ga, q * 6 + 2, none⟩ = some (.int .i64 0) := (cell_of hg).trans k2
      have c3 : wv.cell? ⟨ga, q * 6 + 3, none⟩ = some (.int .i64 0) := (cell_of hg).trans k3
      have c4 : wv.cell? ⟨ga, q * 6 + 4, none⟩ = some (.int .u16 o.n) := (cell_of hg).trans k4
      have c5 : wv.cell? ⟨ga, q * 6 + 5, none⟩ = some (.slice none 0 0) := (cell_of hg).trans k5
      have okc := (hv.ok o (List.mem_of_getElem? ho)).1
      have l9 : Low wv.heap.size wv (wv.alloc (.cells #[.int .i64 o.code, .int .i64 o.res, .int .i64 0, .int .i64 0, .int .u16 o.n, .slice none 0 0] 33)) := (Low.refl _ _).alloc (Nat.le_refl _) _
      have a9 := heap_new wv (.cells #[.int .i64 o.code, .int .i64 o.res, .int .i64 0, .int .i64 0, .int .u16 o.n, .slice none 0 0] 33)
      have L9 := Lib.hid (hL.trans (l9.mono hL.size))
      clear hv hg k0 k1 k2 k3 k4 k5 ho l9 hL
      go_upto_region 5 with fail
      clear c0 c1 c2 c3 c4 c5
      generalize wv.heap.size = t5 at a9 ⊢
      generalize wv.alloc (.cells #[.int .i64 o.code, .int .i64 o.res, .int .i64 0, .int .i64 0, .int .u16 o.n, .slice none 0 0] 33) = wa at a9 L9 ⊢
      have x0 : wa.cell? ⟨t5, 0, none⟩ = some (.int .i64 o.code) := cell_of a9
      have n1 : ¬ o.code = 1 := by rcases okcode_cases okc with h | h | h <;> omega
      clear a9 okc
      go_wp2_with fail
      exact ⟨⟨q + 1, rfl, hlt, L9.out⟩, by show n - ((q : Int) + 1).toNat < n - ((q : Int)).toNat; omega⟩
    · have hlt' : ¬ (q : Int) < (n : Int) := by omega
      have y1 : wv.cell? ⟨S, 0, none⟩ = some (.slice (some ⟨g, 0, none⟩) 1 cg) := cell_of (hL.some B1.out)
      have HL := Lib.hid hL
      clear hL hv
      go_wp2_with fail
      go_loopw [32] (fun i wr => (i = .int .i64 0 ∧ wr = wv) ∨ (i = .int .i64 1 ∧ Low wv.heap.size wv wr)) (fun i _ => 1 - (intOf i).toNat)
      case atStart => exact .inl ⟨rfl, rfl⟩
      case round =>
        rcases hrel with ⟨rfl, rfl⟩ | ⟨rfl, hl⟩
        · obtain ⟨w5, rfl⟩ : ∃ u, u = wr := ⟨_, rfl⟩
          obtain ⟨cs0, r0, r1, r2, r3, r4, r5⟩ := (H4.out.low HL.out).row
          have p0 : w5.cell? ⟨g, 0, none⟩ = some (.slice Pp 1 pc) := (cell_of r0).trans r1
          have p1 : w5.cell? ⟨g, 1, none⟩ = some (.slice A n c) := (cell_of r0).trans r2
          have p2 : w5.cell? ⟨g, 2, none⟩ = some (.int .i64 4) := (cell_of r0).trans r3
          have p3 : w5.cell? ⟨g, 3, none⟩ = some (.int .i64 (-1)) := (cell_of r0).trans r4
          have p4 : w5.cell? ⟨g, 4, none⟩ = some (.slice T 0 tc) := (cell_of r0).trans r5
          have l6 : Low w5.heap.size w5 (w5.alloc (.cells #[.slice Pp 1 pc, .slice A n c, .int .i64 4, .int .i64 (-1), .slice T 0 tc] 29)) := (Low.refl _ _).alloc (Nat.le_refl _) _
          have a6 := heap_new w5 (.cells #[.slice Pp 1 pc, .slice A n c, .int .i64 4, .int .i64 (-1), .slice T 0 tc] 29)
          have L6 := Lib.hid l6
          clear r0 r1 r2 r3 r4 r5 l6
          go_upto_region 11 with fail
          clear p0 p1 p2 p3 p4 y1
          have H6 := Lib.hid ((H4.out.low HL.out).low L6.out)
          generalize w5.heap.size = t7 at a6 ⊢
          generalize w5.alloc (.cells #[.slice Pp 1 pc, .slice A n c, .int .i64 4, .int .i64 (-1), .slice T 0 tc] 29) = w6 at a6 L6 H6 ⊢
          have z1 : w6.cell? ⟨t7, 1, none⟩ = some (.slice A n c) := cell_of a6
          clear a6
          go_wp2_with fail
          go_loopw [39] (fun i wx => ∃ q : Nat, i = .int .i64 q ∧ q ≤ n ∧ Low w6.heap.size w6 wx) (fun i _ => n - (intOf i).toNat)
          case atStart => exact ⟨0, rfl, by omega, Low.refl _ _⟩
          case round =>
            obtain ⟨wu, rfl⟩ : ∃ u, u = wr := ⟨_, rfl⟩
            obtain ⟨q, rfl, hq, hL⟩ := hrel
            have hv := H6.out.low hL
            clear z1
            by_cases hlt : q < n
            · have hlt' : (q : Int) < (n : Int) := by omega
              have hq0 : (0 : Int) ≤ (q : Int) := by omega
              have hqn : (q : Int) ≤ 12 := by omega
              obtain ⟨o, ho⟩ : ∃ o, l[q]? = some o := ⟨_, List.getElem?_eq_getElem (by have := hv.ops.1; omega)⟩
              obtain ⟨ga, cs, rfl, hnc, hg, k0, k1, k2, k3, k4, k5⟩ := hv.ops.2 q o ho
              have c0 : wu.cell? ⟨ga, q * 6, none⟩ = some (.int .i64 o.code) := (cell_of hg).trans k0
              have c1 : wu.cell? ⟨ga, q * 6 + 1, none⟩ = some (.int .i64 o.res) := (cell_of hg).trans k1
              have c2 : wu.cell? ⟨ga, q * 6 + 2, none⟩ = some (.int .i64 0) := (cell_of hg).trans k2
              have c3 : wu.cell? ⟨ga, q * 6 + 3, none⟩ = some (.int .i64 0) := (cell_of hg).trans k3
              have c4 : wu.cell? ⟨ga, q * 6 + 4, none⟩ = some (.int .u16 o.n) := (cell_of hg).trans k4
              have c5 : wu.cell? ⟨ga, q * 6 + 5, none⟩ = some (.slice none 0 0) := (cell_of hg).trans k5
              have okc := (hv.ok o (List.mem_of_getElem? ho)).1
              have l9 : Low wu.heap.size wu (wu.alloc (.cells #[.int .i64 o.code, .int .i64 o.res, .int .i64 0, .int .i64 0, .int .u16 o.n, .slice none 0 0] 33)) := (Low.refl _ _).alloc (Nat.le_refl _) _
              have a9 := heap_new wu (.cells #[.int .i64 o.code, .int .i64 o.res, .int .i64 0, .int .i64 0, .int .u16 o.n, .slice none 0 0] 33)
              have L9 := Lib.hid (hL.trans (l9.mono hL.size))
              clear hv hg k0 k1 k2 k3 k4 k5 ho l9 hL
              go_upto_region 15 with fail
              clear c0 c1 c2 c3 c4 c5
              obtain ⟨t9, ht9⟩ : ∃ t, t = wu.heap.size := ⟨_, rfl⟩
              rw [← ht9] at a9 ⊢
              clear ht9
              generalize wu.alloc (.cells #[.int .i64 o.code, .int .i64 o.res, .int .i64 0, .int .i64 0, .int .u16 o.n, .slice none 0 0] 33) = wa at a9 L9 ⊢
              have hcm := (commutes_any wa.drew o.code okc).mono (fun e w' h => (⟨_, h.1, rfl, h.2⟩ : ∃ v, e = .returned v ∧ (v = .bool false ∧ Low wa.heap.size wa.drew w')))
              have hSa : wa.cell? ⟨t9, 0, none⟩ = some (.int .i64 o.code) := cell_of a9
              have A9 := Lib.hid a9
              clear a9
              refine wp_region_noPanic ?_
              refine wp_region_held_drew (S := fun w' => w'.cell? ⟨t9, 0, none⟩ = some (.int .i64 o.code)) (by kernel_rfl) (by exact hSa) (fun hHeld => ?_)
              refine take_at (i := 0) (v := ?_) rfl (by kernel_rfl) (by kernel_rfl) (by kernel_rfl) (fun _ _ _ h => h) (by rfl) ?_ (by assumption) ?_
              rotate_left
              · intro w' hSw; have s1 := hSw; (try dsimp only at s1); go_simp; (try with_reducible rfl)
              (try simp only [Act.put, List.setIfInBounds_toArray, List.set_cons_zero, List.set_cons_succ])
              refine take_at (i := 1) (v := ?_) rfl (by kernel_rfl) (by kernel_rfl) (by kernel_rfl) (fun _ _ _ h => h) (by rfl) ?_ (by assumption) ?_
              rotate_left
              · intro w' hSw; have s1 := hSw; (try dsimp only at s1); go_simp; (try with_reducible rfl)
              (try simp only [Act.put, List.setIfInBounds_toArray, List.set_cons_zero, List.set_cons_succ])
              refine wpAnyH_ready (rs := [2]) (by kernel_rfl) (by simp) ?_
              refine next_at (i := 2) rfl (fun KK hKK => ?_) AllReadyH.nil
              refine step_call rfl 60 #[.int .i64 o.code] (by go_simp) _ hcm ?_
              rintro v w7 ⟨rfl, l7⟩
              have l7' : Low wa.heap.size wa w7 := (Low.refl _ wa).drew.trans l7
              have hS7 : w7.cell? ⟨t9, 0, none⟩ = some (.int .i64 o.code) := cell_of (l7'.some A9.out)
              have L7 := Lib.hid (L9.out.trans (l7'.mono L9.out.size))
              clear l7 l7'
              refine hKK.out _ _ (by exact hS7) (fun hHeld => ?_)
              clear hKK KK
              (try simp only [Act.put, List.setIfInBounds_toArray, List.set_cons_zero, List.set_cons_succ])
              refine take_at (i := 3) (v := ?_) rfl (by kernel_rfl) (by kernel_rfl) (by kernel_rfl) (fun _ _ _ h => h) (by rfl) ?_ (by assumption) ?_
              rotate_left
              · intro w' hSw; have s1 := hSw; (try dsimp only at s1); go_simp; (try with_reducible rfl)
              (try simp only [Act.put, List.setIfInBounds_toArray, List.set_cons_zero, List.set_cons_succ])
              refine skip_at (i := 4) rfl (by kernel_rfl) (by kernel_rfl) (by kernel_rfl) (fun _ _ _ h => h) (by rfl) (by assumption) ?_
              (try simp only [Act.put, List.setIfInBounds_toArray, List.set_cons_zero, List.set_cons_succ])
              refine skip_at (i := 5) rfl (by kernel_rfl) (by kernel_rfl) (by kernel_rfl) (fun _ _ _ h => h) (by rfl) (by assumption) ?_
              (try simp only [Act.put, List.setIfInBounds_toArray, List.set_cons_zero, List.set_cons_succ])
              refine skip_at (i := 6) rfl (by kernel_rfl) (by kernel_rfl) (by kernel_rfl) (fun _ _ _ h => h) (by rfl) (by assumption) ?_
              (try simp only [Act.put, List.setIfInBounds_toArray, List.set_cons_zero, List.set_cons_succ])
              refine skip_at (i := 7) rfl (by kernel_rfl) (by kernel_rfl) (by kernel_rfl) (fun _ _ _ h => h) (by rfl) (by assumption) ?_
              (try simp only [Act.put, List.setIfInBounds_toArray, List.set_cons_zero, List.set_cons_succ])
              refine skip_at (i := 8) rfl (by kernel_rfl) (by kernel_rfl) (by kernel_rfl) (fun _ _ _ h => h) (by rfl) (by assumption) ?_
              (try simp only [Act.put, List.setIfInBounds_toArray, List.set_cons_zero, List.set_cons_succ])
              refine skip_at (i := 9) rfl (by kernel_rfl) (by kernel_rfl) (by kernel_rfl) (fun _ _ _ h => h) (by rfl) (by assumption) ?_
              (try simp only [Act.put, List.setIfInBounds_toArray, List.set_cons_zero, List.set_cons_succ])
              refine skip_at (i := 10) rfl (by kernel_rfl) (by kernel_rfl) (by kernel_rfl) (fun _ _ _ h => h) (by rfl) (by assumption) ?_
              (try simp only [Act.put, List.setIfInBounds_toArray, List.set_cons_zero, List.set_cons_succ])
              refine skip_at (i := 11) rfl (by kernel_rfl) (by kernel_rfl) (by kernel_rfl) (fun _ _ _ h => h) (by rfl) (by assumption) ?_
              (try simp only [Act.put, List.setIfInBounds_toArray, List.set_cons_zero, List.set_cons_succ])
              refine skip_at (i := 12) rfl (by kernel_rfl) (by kernel_rfl) (by kernel_rfl) (fun _ _ _ h => h) (by rfl) (by assumption) ?_
              (try simp only [Act.put, List.setIfInBounds_toArray, List.set_cons_zero, List.set_cons_succ])
              refine skip_at (i := 13) rfl (by kernel_rfl) (by kernel_rfl) (by kernel_rfl) (fun _ _ _ h => h) (by rfl) (by assumption) ?_
              (try simp only [Act.put, List.setIfInBounds_toArray, List.set_cons_zero, List.set_cons_succ])
              refine skip_at (i := 14) rfl (by kernel_rfl) (by kernel_rfl) (by kernel_rfl) (fun _ _ _ h => h) (by rfl) (by assumption) ?_
              (try simp only [Act.put, List.setIfInBounds_toArray, List.set_cons_zero, List.set_cons_succ])
              refine skip_at (i := 15) rfl (by kernel_rfl) (by kernel_rfl) (by kernel_rfl) (fun _ _ _ h => h) (by rfl) (by assumption) ?_
              (try simp only [Act.put, List.setIfInBounds_toArray, List.set_cons_zero, List.set_cons_succ])
              refine skip_at (i := 16) rfl (by kernel_rfl) (by kernel_rfl) (by kernel_rfl) (fun _ _ _ h => h) (by rfl) (by assumption) ?_
              (try simp only [Act.put, List.setIfInBounds_toArray, List.set_cons_zero, List.set_cons_succ])
              refine skip_at (i := 17) rfl (by kernel_rfl) (by kernel_rfl) (by kernel_rfl) (fun _ _ _ h => h) (by rfl) (by assumption) ?_
              (try simp only [Act.put, List.setIfInBounds_toArray, List.set_cons_zero, List.set_cons_succ])
              refine skip_at (i := 18) rfl (by kernel_rfl) (by kernel_rfl) (by kernel_rfl) (fun _ _ _ h => h) (by rfl) (by assumption) ?_
              (try simp only [Act.put, List.setIfInBounds_toArray, List.set_cons_zero, List.set_cons_succ])
              refine skip_at (i := 19) rfl (by kernel_rfl) (by kernel_rfl) (by kernel_rfl) (fun _ _ _ h => h) (by rfl) (by assumption) ?_
              (try simp only [Act.put, List.setIfInBounds_toArray, List.set_cons_zero, List.set_cons_succ])
              refine skip_at (i := 20) rfl (by kernel_rfl) (by kernel_rfl) (by kernel_rfl) (fun _ _ _ h => h) (by rfl) (by assumption) ?_
              (try simp only [Act.put, List.setIfInBounds_toArray, List.set_cons_zero, List.set_cons_succ])
              refine take_at (i := 21) (v := ?_) rfl (by kernel_rfl) (by kernel_rfl) (by kernel_rfl) (fun _ _ _ h => h) (by rfl) ?_ (by assumption) ?_
              rotate_left
              · intro w' hSw; have s1 := hSw; (try dsimp only at s1); go_simp; (try with_reducible rfl)
              (try simp only [Act.put, List.setIfInBounds_toArray, List.set_cons_zero, List.set_cons_succ])
              refine wpAnyH_done (by kernel_rfl) ?_ _
              refine NoPanic.normal ?_
              (try go_wp2_with fail)
              exact ⟨⟨q + 1, rfl, hlt, L7.out⟩, by show n - ((q : Int) + 1).toNat < n - ((q : Int)).toNat; omega⟩
            · have hlt' : ¬ (q : Int) < (n : Int) := by omega
              have HLL := Lib.hid (L6.out.trans (hL.mono L6.out.size))
              clear hL hv
              go_wp2_with fail
              exact ⟨.inr ⟨rfl, HLL.out⟩, by decide⟩
        · obtain ⟨w5, rfl⟩ : ∃ u, u = wr := ⟨_, rfl⟩
          clear y1
          have hL45 := HL.out.trans (hl.mono HL.out.size)
          have y1 : w5.cell? ⟨S, 0, none⟩ = some (.slice (some ⟨g, 0, none⟩) 1 cg) := cell_of (hL45.some B1.out)
          have hb2 := hL45.some B2.out
          have y2 : w5.cell? ⟨t2, 0, none⟩ = some (.slice none 0 0) := cell_of hb2
          have f2 : w5.frozen? ⟨t2, 0, none⟩ = false := free_of hb2
          have HF := Lib.hid ((L4.out.trans (hL45.mono L4.out.size)).setCell (i := 0) (g := t2) (by have := HT2.out; have := HS.out; omega) (.slice (some ⟨g, 0, none⟩) 1 cg))
          have HB2 := Lib.hid hb2
          clear hL45 hl hb2
          go_wp2_with fail
          have e2' : (w5.setCell ⟨t2, 0, none⟩ (.slice (some ⟨g, 0, none⟩) 1 cg)).cell? ⟨t2, 0, none⟩ = some (.slice (some ⟨g, 0, none⟩) 1 cg) := cell_of (set_blk HB2.out)
          exact bodyPost_ret (v := .agg #[.slice (some ⟨g, 0, none⟩) 1 cg]) (by simp [results, Tryz.results20, go_sem, e2']; done) rfl ⟨HF.out, rfl⟩
end Go.Proofs.YtnjdegjpmbdboaaGreat
