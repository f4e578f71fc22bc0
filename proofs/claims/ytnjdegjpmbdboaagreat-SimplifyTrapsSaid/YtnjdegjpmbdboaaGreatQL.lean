/- needed: what a value depends on is noted. -/
import Derived.Test.YtnjdegjpmbdboaaGreatQK
import Derived.Deep.RegionHeld
namespace Go.Proofs.YtnjdegjpmbdboaaGreat
open Go.RowKit
set_option linter.unusedVariables false
/-- An operation is taken first: it is found by its place in the list. -/
theorem take_at {P : Program} {ops : Array Oper} {Q : Exit → Act → World → Prop} {md : Region.Mode} {S : World → Prop} {i n : Nat} {oi : Oper} {l : List Oper} {v : Value} {li : Array Bool} {a : Act} {w : World} (hl : List.drop i ops.toList = oi :: l)
    (hs : Region.noSelect ops = true) (hf : Region.free md ops li i = true) (hr : (Region.ready md ops li).contains i = true) (hQ : ∀ c a w, Q (.panic c) (a.put oi.dst v) w → Q (.panic c) a w)
    (hw : Region.wanted oi (yielded ops a.tmps) = true) (hy : ∀ w, S w → (execOp a.eval oi).run P w = .ok (.value v) w) (hS : S w)
    (h : wpAnyH P md ops Q S n (li.setIfInBounds i true) (a.put oi.dst v) w) : wpAnyH P md ops Q S (n + 1) li a w := by
  have hi : ops[i]? = some oi := by
    rw [← Array.getElem?_toList, ← List.head?_drop, hl]; rfl
  exact wpAnyH_take hi hs hf hr hQ (Or.inl ⟨hw, hy⟩) hS h
/-- One of the operations that may come up next. -/
theorem next_at {P : Program} {ops : Array Oper} {Q : Exit → Act → World → Prop} {md : Region.Mode} {S : World → Prop} {i n : Nat} {oi : Oper} {l : List Oper} {li : Array Bool} {a : Act} {w : World} {rs : List Nat} (hl : List.drop i ops.toList = oi :: l)
    (h : ∀ K' : Act → World → Prop, Shut (∀ a w, S w → (S w → wpAnyH P md ops Q S n (li.setIfInBounds i true) a w) → K' a w) → if Region.wanted oi (yielded ops a.tmps) = true then Oper.wp P oi a w K' Q else K' (a.put oi.dst undef) w)
    (hs : AllReadyH P md ops Q S n li a w rs) : AllReadyH P md ops Q S n li a w (i :: rs) := by
  have hi : ops[i]? = some oi := by
    rw [← Array.getElem?_toList, ← List.head?_drop, hl]; rfl
  exact AllReadyH.cons hi h hs
theorem from_none {w : World} {fm : Nat} {m : List (Int × Value)} (h : IMap w fm m) {r : Int} (hr : getI m r = none) : (Instr.lookup 127 (.map (some fm)) (.int .i64 r) false).run Tryz.prog w = .ok (.slice none 0 0) w := by
  have := lookup_i (P := Tryz.prog) (t := 127) Tryz.underlying127 Tryz.underlying3 h (k := r) (z := .slice none 0 0) (by kernel_rfl) false
  rw [hr] at this
  exact this
set_option maxRecDepth 100000 in
set_option maxHeartbeats 8000000 in
theorem from_note (w : World) (z fm ob : Nat) (code r n : Int) (m : List (Int × Value)) (hz : w.heap[z]? = some (.cells #[.map (some fm)] 127 (0, 0))) (hm : IMap w fm m) (hr : getI m r = none)
    (ho : w.heap[ob]? = some (.cells #[.int .i64 code, .int .i64 r, .int .i64 0, .int .i64 0, .int .u16 n, .slice none 0 0] 33 (0, 0))) :
    Calls Tryz.prog 88 #[.int .i64 0, .pointer (some ⟨z, 0, none⟩), .pointer (some ⟨ob, 0, none⟩)] w (fun e w' => e = .returned (.int .i64 0) ∧ Chs [fm] w w' ∧ ∃ v, IMap w' fm (putI m r v)) := by
  have hS0 : w.cell? ⟨z, 0, none⟩ = some (.map (some fm)) ∧ w.cell? ⟨ob, 1, none⟩ = some (.int .i64 r) := ⟨cell_of hz, cell_of ho⟩
  have lA : Low w.heap.size w (w.drew.alloc (.cells #[.int .i64 0] 3)) := ((Low.refl _ w).drew).alloc (Nat.le_refl _) _
  have hSA : (w.drew.alloc (.cells #[.int .i64 0] 3)).cell? ⟨z, 0, none⟩ = some (.map (some fm)) ∧ (w.drew.alloc (.cells #[.int .i64 0] 3)).cell? ⟨ob, 1, none⟩ = some (.int .i64 r) := ⟨cell_of (lA.some hz), cell_of (lA.some ho)⟩
  have hq1 : (Instr.lookup 127 (.map (some fm)) (.int .i64 r) false).run Tryz.prog w.drew = .ok (.slice none 0 0) w.drew := from_none (hm.low (Low.refl _ w).drew) hr
  have hq2 : (Instr.lookup 127 (.map (some fm)) (.int .i64 r) false).run Tryz.prog (w.alloc (.cells #[.int .i64 0] 3)).drew = .ok (.slice none 0 0) (w.alloc (.cells #[.int .i64 0] 3)).drew := from_none (hm.low lA) hr
  have HZ := Lib.hid hz; have HO := Lib.hid ho; have HM := Lib.hid hm; have LA := Lib.hid lA
  clear hz hm hr ho lA
  go_enter Tryz.func88, Tryz.ntmps88
  go_upto_region 1 with fail
  refine wp_region_noPanic ?_
  refine wp_region_held_drew (S := fun w' => w'.cell? ⟨z, 0, none⟩ = some (.map (some fm)) ∧ w'.cell? ⟨ob, 1, none⟩ = some (.int .i64 r)) (by kernel_rfl) (by exact hS0) (fun hHeld => ?_)
  refine take_at (i := 0) (v := ?_) rfl (by kernel_rfl) (by kernel_rfl) (by kernel_rfl) (fun _ _ _ h => h) (by rfl) ?_ (by assumption) ?_
  rotate_left
  · intro w' hSw; obtain ⟨s1, s2⟩ := hSw; go_simp; (try with_reducible rfl)
  (try simp only [Act.put, List.setIfInBounds_toArray, List.set_cons_zero, List.set_cons_succ])
  refine take_at (i := 1) (v := ?_) rfl (by kernel_rfl) (by kernel_rfl) (by kernel_rfl) (fun _ _ _ h => h) (by rfl) ?_ (by assumption) ?_
  rotate_left
  · intro w' hSw; obtain ⟨s1, s2⟩ := hSw; go_simp; (try with_reducible rfl)
  (try simp only [Act.put, List.setIfInBounds_toArray, List.set_cons_zero, List.set_cons_succ])
  refine take_at (i := 2) (v := ?_) rfl (by kernel_rfl) (by kernel_rfl) (by kernel_rfl) (fun _ _ _ h => h) (by rfl) ?_ (by assumption) ?_
  rotate_left
  · intro w' hSw; obtain ⟨s1, s2⟩ := hSw; go_simp; (try with_reducible rfl)
  (try simp only [Act.put, List.setIfInBounds_toArray, List.set_cons_zero, List.set_cons_succ])
  refine take_at (i := 3) (v := ?_) rfl (by kernel_rfl) (by kernel_rfl) (by kernel_rfl) (fun _ _ _ h => h) (by rfl) ?_ (by assumption) ?_
  rotate_left
  · intro w' hSw; obtain ⟨s1, s2⟩ := hSw; go_simp; (try with_reducible rfl)
  (try simp only [Act.put, List.setIfInBounds_toArray, List.set_cons_zero, List.set_cons_succ])
  refine take_at (i := 4) (v := ?_) rfl (by kernel_rfl) (by kernel_rfl) (by kernel_rfl) (fun _ _ _ h => h) (by rfl) ?_ (by assumption) ?_
  rotate_left
  · intro w' hSw; obtain ⟨s1, s2⟩ := hSw; go_simp; (try with_reducible rfl)
  (try simp only [Act.put, List.setIfInBounds_toArray, List.set_cons_zero, List.set_cons_succ])
  refine take_at (i := 5) (v := ?_) rfl (by kernel_rfl) (by kernel_rfl) (by kernel_rfl) (fun _ _ _ h => h) (by rfl) ?_ (by assumption) ?_
  rotate_left
  · intro w' hSw; obtain ⟨s1, s2⟩ := hSw; go_simp; (try with_reducible rfl)
  (try simp only [Act.put, List.setIfInBounds_toArray, List.set_cons_zero, List.set_cons_succ])
  refine take_at (i := 7) (v := ?_) rfl (by kernel_rfl) (by kernel_rfl) (by kernel_rfl) (fun _ _ _ h => h) (by rfl) ?_ (by assumption) ?_
  rotate_left
  · intro w' hSw; obtain ⟨s1, s2⟩ := hSw; go_simp; (try with_reducible rfl)
  (try simp only [Act.put, List.setIfInBounds_toArray, List.set_cons_zero, List.set_cons_succ])
  refine wpAnyH_ready (rs := [6, 8]) (by kernel_rfl) (by simp) ?_
  refine next_at (i := 6) rfl (fun KK hKK => ?_) (next_at (i := 8) rfl (fun KK hKK => ?_) AllReadyH.nil)
  · go_simp
    refine hKK.out _ _ (by exact hS0) (fun hHeld => ?_)
    clear hKK KK
    (try simp only [Act.put, List.setIfInBounds_toArray, List.set_cons_zero, List.set_cons_succ])
    refine wpAnyH_ready (rs := [8]) (by kernel_rfl) (by simp) ?_
    refine next_at (i := 8) rfl (fun KK hKK => ?_) AllReadyH.nil
    go_simp
    refine hKK.out _ _ (by exact hSA) (fun hHeld => ?_)
    clear hKK KK
    (try simp only [Act.put, List.setIfInBounds_toArray, List.set_cons_zero, List.set_cons_succ])
    refine wpAnyH_ready (rs := [9]) (by kernel_rfl) (by simp) ?_
    refine next_at (i := 9) rfl (fun KK hKK => ?_) AllReadyH.nil
    refine step_app1 (w := w.drew.alloc (.cells #[.int .i64 0] 3)) (P := Tryz.prog) (base := w.heap.size) (n := 0) (m := 1) (xs := []) ap22 rfl (.tmp 11) (.tmp 13) rfl rfl (show Own _ w.heap.size 3 1 (Value.slice none 0 0) 0 [] from Own.nil _ _ _ _) rfl (heap_new w.drew _) rfl (by simp [Value.oneCell']) (by omega) (by simp) ?_
    intro v9 w9 happ0
    have happ : App1 (w.drew.alloc (.cells #[.int .i64 0] 3)) w9 w.heap.size 3 1 (.slice none 0 0) v9 0 [] 1 [.int .i64 0] := happ0
    clear happ0
    obtain ⟨g, cr, cs, rfl, hSr, hr, hcr, hown⟩ := happ.row (k := 1) rfl (by decide)
    have l9 : Low w.heap.size w w9 := LA.out.trans (happ.low (Own.nil _ _ _ _) (Nat.le_refl _) (by simp))
    have hS9 : w9.cell? ⟨z, 0, none⟩ = some (.map (some fm)) ∧ w9.cell? ⟨ob, 1, none⟩ = some (.int .i64 r) := ⟨cell_of (l9.some HZ.out), cell_of (l9.some HO.out)⟩
    have m9 := HM.out.low l9
    have hlt := m9.lt
    obtain ⟨es, cl, hu, he⟩ := update_i (P := Tryz.prog) (t := 127) Tryz.underlying127 Tryz.underlying3 m9 (k := r) (.slice (some ⟨g, 0, none⟩) 1 cr)
    have hSF : (Go.ChangeMaps.setBlock w9 fm (.map es cl)).cell? ⟨z, 0, none⟩ = some (.map (some fm)) ∧ (Go.ChangeMaps.setBlock w9 fm (.map es cl)).cell? ⟨ob, 1, none⟩ = some (.int .i64 r) := by
      have hz9 := l9.some HZ.out
      have ho9 := l9.some HO.out
      obtain ⟨es', cl', hm9, _⟩ := m9
      refine ⟨cell_of ((setBlock_other _ ?_).trans hz9), cell_of ((setBlock_other _ ?_).trans ho9)⟩
      · rintro rfl; rw [hz9] at hm9; cases hm9
      · rintro rfl; rw [ho9] at hm9; cases hm9
    have HFIN := Lib.hid (show Chs [fm] w (Go.ChangeMaps.setBlock w9 fm (.map es cl)) ∧ ∃ v, IMap (Go.ChangeMaps.setBlock w9 fm (.map es cl)) fm (putI m r v) from ⟨(Chs.of_low l9).trans (Chs.setBlock _ (by simp) _), _, es, cl, setBlock_at _ hlt, he⟩)
    clear happ hown hr l9 m9 hlt he
    refine hKK.out _ _ (by exact hS9) (fun hHeld => ?_)
    clear hKK KK
    (try simp only [Act.put, List.setIfInBounds_toArray, List.set_cons_zero, List.set_cons_succ])
    refine wpAnyH_ready (rs := [10]) (by kernel_rfl) (by simp) ?_
    refine next_at (i := 10) rfl (fun KK hKK => ?_) AllReadyH.nil
    go_simp
    refine hKK.out _ _ (by exact hSF) (fun hHeld => ?_)
    clear hKK KK
    (try simp only [Act.put, List.setIfInBounds_toArray, List.set_cons_zero, List.set_cons_succ])
    refine wpAnyH_done (by kernel_rfl) ?_ _
    refine NoPanic.normal ?_
    (try go_wp2_with fail)
    go_ret
    exact ⟨rfl, HFIN.out⟩
  · go_simp
    refine hKK.out _ _ (by exact hSA) (fun hHeld => ?_)
    clear hKK KK
    (try simp only [Act.put, List.setIfInBounds_toArray, List.set_cons_zero, List.set_cons_succ])
    refine wpAnyH_ready (rs := [6]) (by kernel_rfl) (by simp) ?_
    refine next_at (i := 6) rfl (fun KK hKK => ?_) AllReadyH.nil
    go_simp
    refine hKK.out _ _ (by exact hSA) (fun hHeld => ?_)
    clear hKK KK
    (try simp only [Act.put, List.setIfInBounds_toArray, List.set_cons_zero, List.set_cons_succ])
    refine wpAnyH_ready (rs := [9]) (by kernel_rfl) (by simp) ?_
    refine next_at (i := 9) rfl (fun KK hKK => ?_) AllReadyH.nil
    refine step_app1 (w := w.drew.alloc (.cells #[.int .i64 0] 3)) (P := Tryz.prog) (base := w.heap.size) (n := 0) (m := 1) (xs := []) ap22 rfl (.tmp 11) (.tmp 13) rfl rfl (show Own _ w.heap.size 3 1 (Value.slice none 0 0) 0 [] from Own.nil _ _ _ _) rfl (heap_new w.drew _) rfl (by simp [Value.oneCell']) (by omega) (by simp) ?_
    intro v9 w9 happ0
    have happ : App1 (w.drew.alloc (.cells #[.int .i64 0] 3)) w9 w.heap.size 3 1 (.slice none 0 0) v9 0 [] 1 [.int .i64 0] := happ0
    clear happ0
    obtain ⟨g, cr, cs, rfl, hSr, hr, hcr, hown⟩ := happ.row (k := 1) rfl (by decide)
    have l9 : Low w.heap.size w w9 := LA.out.trans (happ.low (Own.nil _ _ _ _) (Nat.le_refl _) (by simp))
    have hS9 : w9.cell? ⟨z, 0, none⟩ = some (.map (some fm)) ∧ w9.cell? ⟨ob, 1, none⟩ = some (.int .i64 r) := ⟨cell_of (l9.some HZ.out), cell_of (l9.some HO.out)⟩
    have m9 := HM.out.low l9
    have hlt := m9.lt
    obtain ⟨es, cl, hu, he⟩ := update_i (P := Tryz.prog) (t := 127) Tryz.underlying127 Tryz.underlying3 m9 (k := r) (.slice (some ⟨g, 0, none⟩) 1 cr)
    have hSF : (Go.ChangeMaps.setBlock w9 fm (.map es cl)).cell? ⟨z, 0, none⟩ = some (.map (some fm)) ∧ (Go.ChangeMaps.setBlock w9 fm (.map es cl)).cell? ⟨ob, 1, none⟩ = some (.int .i64 r) := by
      have hz9 := l9.some HZ.out
      have ho9 := l9.some HO.out
      obtain ⟨es', cl', hm9, _⟩ := m9
      refine ⟨cell_of ((setBlock_other _ ?_).trans hz9), cell_of ((setBlock_other _ ?_).trans ho9)⟩
      · rintro rfl; rw [hz9] at hm9; cases hm9
      · rintro rfl; rw [ho9] at hm9; cases hm9
    have HFIN := Lib.hid (show Chs [fm] w (Go.ChangeMaps.setBlock w9 fm (.map es cl)) ∧ ∃ v, IMap (Go.ChangeMaps.setBlock w9 fm (.map es cl)) fm (putI m r v) from ⟨(Chs.of_low l9).trans (Chs.setBlock _ (by simp) _), _, es, cl, setBlock_at _ hlt, he⟩)
    clear happ hown hr l9 m9 hlt he
    refine hKK.out _ _ (by exact hS9) (fun hHeld => ?_)
    clear hKK KK
    (try simp only [Act.put, List.setIfInBounds_toArray, List.set_cons_zero, List.set_cons_succ])
    refine wpAnyH_ready (rs := [10]) (by kernel_rfl) (by simp) ?_
    refine next_at (i := 10) rfl (fun KK hKK => ?_) AllReadyH.nil
    go_simp
    refine hKK.out _ _ (by exact hSF) (fun hHeld => ?_)
    clear hKK KK
    (try simp only [Act.put, List.setIfInBounds_toArray, List.set_cons_zero, List.set_cons_succ])
    refine wpAnyH_done (by kernel_rfl) ?_ _
    refine NoPanic.normal ?_
    (try go_wp2_with fail)
    go_ret
    exact ⟨rfl, HFIN.out⟩
end Go.Proofs.YtnjdegjpmbdboaaGreat
