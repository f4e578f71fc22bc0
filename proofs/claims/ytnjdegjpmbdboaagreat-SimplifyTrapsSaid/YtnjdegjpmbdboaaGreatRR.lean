/- wellFormed's map of calls: at most one entry; what it ranges over. -/
import Derived.Test.YtnjdegjpmbdboaaGreatQ5
import Derived.Test.YtnjdegjpmbdboaaGreatQZ
/- ir's checker: a program whose header and functions are as they must be is valid. -/
namespace Go.Proofs.YtnjdegjpmbdboaaGreat
open Go.RowKit
set_option linter.unusedVariables false
set_option maxRecDepth 100000 in
set_option maxHeartbeats 4000000 in
theorem function_empty (w : World) (gf nf cf k : Nat) (a b c d e : Value) (hF : w.cell? ⟨gf, k, none⟩ = some (.slice none 0 0)) (hk : k < nf) (hnf : nf ≤ 4) :
    Calls Tryz.prog 69 #[.agg #[.slice (some ⟨gf, 0, none⟩) nf cf, a, b, c, d, e], .int .i64 k] w (fun r w' => Low w.heap.size w w' ∧ r = .returned (.bool true)) := by
  have l1 : Low w.heap.size w (w.alloc (.cells #[.slice (some ⟨gf, 0, none⟩) nf cf, a, b, c, d, e] 58)) := (Low.refl _ w).alloc (Nat.le_refl _) _
  have a1 := heap_new w (.cells #[.slice (some ⟨gf, 0, none⟩) nf cf, a, b, c, d, e] 58)
  have f1 := (World.cell?_of_block (l1.block _ (cell_lt hF))).trans hF
  have hk0 : (0 : Int) ≤ (k : Int) := by omega
  have hk1 : (k : Int) < (nf : Int) := by omega
  have hk3 : (k : Int) ≤ 4 := by omega
  clear hF
  go_enter Tryz.func69, Tryz.ntmps69
  go_upto_region 1 with fail
  obtain ⟨t2, ht2⟩ : ∃ t, t = w.heap.size := ⟨_, rfl⟩
  rw [← ht2] at a1 ⊢
  clear ht2
  generalize w.alloc (.cells #[.slice (some ⟨gf, 0, none⟩) nf cf, a, b, c, d, e] 58) = w1 at a1 l1 f1 ⊢
  have y0 : w1.cell? ⟨t2, 0, none⟩ = some (.slice (some ⟨gf, 0, none⟩) nf cf) := cell_of a1
  have L2 := Lib.hid (l1.trans (((Low.refl _ w1).alloc (Nat.le_refl _) (.cells #[.slice none 0 0] 39)).mono l1.size))
  have a2 := heap_new w1 (.cells #[.slice none 0 0] 39)
  clear a1 l1
  go_upto_region 2 with fail
  obtain ⟨t5, ht5⟩ : ∃ t, t = w1.heap.size := ⟨_, rfl⟩
  rw [← ht5] at a2 ⊢
  clear ht5 y0 f1
  generalize w1.alloc (.cells #[.slice none 0 0] 39) = w2 at a2 L2 ⊢
  have x5 : w2.cell? ⟨t5, 0, none⟩ = some (.slice none 0 0) := cell_of a2
  clear a2
  go_wp2_with fail
  go_ret
  exact ⟨L2.out, rfl⟩
set_option maxRecDepth 100000 in
set_option maxHeartbeats 4000000 in
theorem valid_of (w : World) (F : Option Addr) (nf cf : Nat) (b c d e f : Value) (hnf : nf ≤ 4)
    (hh : ∀ u, Low w.heap.size w u → Calls Tryz.prog 68 #[.agg #[.slice F nf cf, b, c, d, e, f]] u (fun r w' => Low u.heap.size u w' ∧ r = .returned (.int .i64 0)))
    (hf : ∀ u, Low w.heap.size w u → ∀ j, j < nf → Calls Tryz.prog 69 #[.agg #[.slice F nf cf, b, c, d, e, f], .int .i64 (j : Nat)] u (fun r w' => Low u.heap.size u w' ∧ r = .returned (.bool true))) :
    Calls Tryz.prog 25 #[.agg #[.slice F nf cf, b, c, d, e, f]] w (fun r w' => Low w.heap.size w w' ∧ r = .returned (.int .i64 0)) := by
  have l1 : Low w.heap.size w (w.alloc (.cells #[.slice F nf cf, b, c, d, e, f] 58)) := (Low.refl _ w).alloc (Nat.le_refl _) _
  have a1 := heap_new w (.cells #[.slice F nf cf, b, c, d, e, f] 58)
  have hnf' : (nf : Int) ≤ 4 := by omega
  have HH := Lib.hid hh; have HF := Lib.hid hf
  clear hh hf
  go_enter Tryz.func25, Tryz.ntmps25
  go_upto_region 1 with fail
  obtain ⟨t1, ht1⟩ : ∃ t, t = w.heap.size := ⟨_, rfl⟩
  rw [← ht1] at a1 ⊢
  clear ht1
  generalize w.alloc (.cells #[.slice F nf cf, b, c, d, e, f] 58) = w1 at a1 l1 ⊢
  have y0 : w1.cell? ⟨t1, 0, none⟩ = some (.slice F nf cf) := cell_of a1
  have y1 : w1.cell? ⟨t1, 1, none⟩ = some b := cell_of a1
  have y2 : w1.cell? ⟨t1, 2, none⟩ = some c := cell_of a1
  have y3 : w1.cell? ⟨t1, 3, none⟩ = some d := cell_of a1
  have y4 : w1.cell? ⟨t1, 4, none⟩ = some e := cell_of a1
  have y5 : w1.cell? ⟨t1, 5, none⟩ = some f := cell_of a1
  have L1 := Lib.hid l1; have A1 := Lib.hid a1
  have hhead := HH.out w1 l1
  clear a1 l1
  go_upto_region 4 with (first
    | (go_at_call 68; with_reducible refine hhead.mono ?_; rintro r w2 ⟨l2, rfl⟩))
  have L2 := Lib.hid (L1.out.trans (Low.mono l2 L1.out.size)); have A2 := Lib.hid (Low.some l2 A1.out)
  clear l2 y0 y1 y2 y3 y4 y5 hhead
  have y0 : w2.cell? ⟨t1, 0, none⟩ = some (.slice F nf cf) := cell_of A2.out
  go_wp2_with fail
  go_loopw [13] (fun i wr => ∃ q : Nat, i = .int .i64 q ∧ q ≤ nf ∧ Low w2.heap.size w2 wr) (fun i _ => nf - (intOf i).toNat)
  case atStart => exact ⟨0, rfl, by omega, Low.refl _ _⟩
  case round =>
    obtain ⟨q, rfl, hq, hl⟩ := hrel
    obtain ⟨wv, rfl⟩ : ∃ u, u = wr := ⟨_, rfl⟩
    have lv := L2.out.trans (hl.mono L2.out.size)
    by_cases hlt : q < nf
    · have hlt' : (q : Int) < (nf : Int) := by omega
      have hq0 : (0 : Int) ≤ (q : Int) := by omega
      have hqn : (q : Int) ≤ 4 := by omega
      have a3 := hl.some A2.out
      have z0 : wv.cell? ⟨t1, 0, none⟩ = some (.slice F nf cf) := cell_of a3
      have z1 : wv.cell? ⟨t1, 1, none⟩ = some b := cell_of a3
      have z2 : wv.cell? ⟨t1, 2, none⟩ = some c := cell_of a3
      have z3 : wv.cell? ⟨t1, 3, none⟩ = some d := cell_of a3
      have z4 : wv.cell? ⟨t1, 4, none⟩ = some e := cell_of a3
      have z5 : wv.cell? ⟨t1, 5, none⟩ = some f := cell_of a3
      have hfn := HF.out wv lv q hlt
      have HL := Lib.hid hl
      clear hl lv a3 y0
      go_wp2_with (first
        | (go_at_call 69; with_reducible refine hfn.mono ?_; rintro r w3 ⟨l3, rfl⟩; have L3 := Lib.hid (HL.out.trans (Low.mono l3 HL.out.size)); clear l3))
      exact ⟨⟨q + 1, rfl, hlt, L3.out⟩, by show nf - ((q : Int) + 1).toNat < nf - ((q : Int)).toNat; omega⟩
    · have hlt' : ¬ (q : Int) < (nf : Int) := by omega
      obtain rfl : q = nf := by omega
      have LV := Lib.hid lv
      clear lv hl
      go_wp2_with fail
      go_ret
      exact ⟨LV.out, rfl⟩
end Go.Proofs.YtnjdegjpmbdboaaGreat
namespace Go.Proofs.YtnjdegjpmbdboaaGreat
open Go.RowKit
set_option linter.unusedVariables false
/-- Whether a call is among the operations, as a number. -/
def callM (l : List Opn) : Nat := if l.any (fun o => o.code == 26) then 1 else 0
theorem callM_snoc {l : List Opn} {q : Nat} {o : Opn} (h : l[q]? = some o) : callM (l.take (q + 1)) = if o.code = 26 then 1 else callM (l.take q) := by
  unfold callM
  rw [List.take_add_one, h]
  simp only [Option.toList_some, List.any_append, List.any_cons, List.any_nil, Bool.or_false]
  by_cases hc : o.code = 26
  · simp [hc]
  · simp [hc]
theorem callM_le (l : List Opn) : callM l = 0 ∨ callM l = 1 := by
  unfold callM
  split
  · exact .inr rfl
  · exact .inl rfl
/-- The map of calls: empty, or 0 for 0. -/
def MapM (w : World) (m M : Nat) : Prop := w.heap[m]? = some (.map (if M = 0 then #[] else #[⟨.int .i64 0, .int .i64 0, 0⟩]) M)
theorem MapM.keep {w w' : World} {m M : Nat} (h : MapM w m M) (hk : w'.heap[m]? = w.heap[m]?) : MapM w' m M := hk.trans h
theorem map_note {w : World} {m M : Nat} (h : MapM w m M) (hM : M = 0 ∨ M = 1) : (Instr.mapUpdate 53 (.map (some m)) (.int .i64 0) (.int .i64 0)).run Tryz.prog w = .ok () (Go.ChangeMaps.setBlock w m (.map #[⟨.int .i64 0, .int .i64 0, 0⟩] 1)) ∧ MapM (Go.ChangeMaps.setBlock w m (.map #[⟨.int .i64 0, .int .i64 0, 0⟩] 1)) m 1 := by
  have hlt := heap_lt h
  refine ⟨?_, setBlock_at _ hlt⟩
  unfold MapM at h
  rcases hM with rfl | rfl
  · have hg : w.heap[m]? = some (.map #[] 0) := h
    obtain ⟨r, r1, r2, r3, r4⟩ := findKey_i (P := Tryz.prog) (w := w) (k := 0) Tryz.underlying3 ents_nil
    have hr : r = none := r3.2 rfl
    subst hr
    simp [Instr.mapUpdate, run_underlying Tryz.underlying53, MapKept.run_getObj_map hg, checkKey_i Tryz.underlying3, r1, MapKept.run_setObj_map _ hg, Go.ChangeMaps.setBlock]
  · have hg : w.heap[m]? = some (.map #[⟨.int .i64 0, .int .i64 0, 0⟩] 1) := h
    obtain ⟨r, r1, r2, r3, r4⟩ := findKey_i (P := Tryz.prog) (w := w) (k := 0) (l := [(0, .int .i64 0)]) (es := #[⟨.int .i64 0, .int .i64 0, 0⟩]) Tryz.underlying3 rfl
    cases r with
    | none => exact absurd (r3.1 rfl) (by decide)
    | some p =>
      obtain ⟨j, v0⟩ := p
      obtain ⟨q, b, c, d⟩ := r4 j v0 rfl
      have hj : j = 0 := by
        have := (List.getElem?_eq_some_iff.1 b).1
        simp at this; omega
      subst hj
      have hs : (Instr.keyThatStays (.int .i64 0) (.int .i64 0)).run Tryz.prog w = .ok (.int .i64 0) w := by
        simp [Instr.keyThatStays, Instr.sameBits]
      simp [Instr.mapUpdate, run_underlying Tryz.underlying53, MapKept.run_getObj_map hg, checkKey_i Tryz.underlying3, r1, MapKept.run_setObj_map _ hg, Go.ChangeMaps.setBlock, hs]
theorem one_range {w : World} {m : Nat} (h : MapM w m 1) : (Instr.range 53 (.map (some m))).run Tryz.prog w = .ok (.pointer (some ⟨w.heap.size, 0, none⟩)) (w.alloc (.mapIter (some m) 1 #[] 1)) := run_range_map w 53 3 3 m _ 1 Tryz.underlying53 h
theorem one_next1 {w : World} {r m : Nat} {ty : TypeId} (hr : w.heap[r]? = some (.mapIter (some m) 1 #[] 1)) (h : MapM w m 1) : (Instr.next (.pointer (some ⟨r, 0, none⟩)) false ty).run Tryz.prog w = .ok (.tuple #[.bool true, .int .i64 0, .int .i64 0]) (Go.ChangeMaps.setBlock w r (.mapIter (some m) 1 #[0] 1)) := by
  have hg : w.heap[m]? = some (.map #[⟨.int .i64 0, .int .i64 0, 0⟩] 1) := h
  simp [Instr.next, getObj, setObj, Sem.run_bind, Sem.run, hr, hg, Result.andThen, choose, Question.forced, Go.ChangeMaps.setBlock]
theorem one_next2 {w : World} {r m : Nat} {ty : TypeId} (hr : w.heap[r]? = some (.mapIter (some m) 1 #[0] 1)) (h : MapM w m 1) : (Instr.next (.pointer (some ⟨r, 0, none⟩)) false ty).run Tryz.prog w = .ok (.tuple #[.bool false]) w := by
  have hg : w.heap[m]? = some (.map #[⟨.int .i64 0, .int .i64 0, 0⟩] 1) := h
  simp [Instr.next, getObj, setObj, Sem.run_bind, Sem.run, hr, hg, Result.andThen, choose, Question.forced]
theorem one_entry {w : World} {r m : Nat} (hr : w.heap[r]? = some (.mapIter (some m) 1 #[0] 1)) (h : MapM w m 1) : (Instr.entry (.pointer (some ⟨r, 0, none⟩))).run Tryz.prog w = .ok (.tuple #[.int .i64 0, .int .i64 0]) w := by
  have hg : w.heap[m]? = some (.map #[⟨.int .i64 0, .int .i64 0, 0⟩] 1) := h
  simp [Instr.entry, getObj, Sem.run_bind, Sem.run, hr, hg, Result.andThen]
/-- The rounds that an iterator of one entry has left. -/
def iterLeft (r : Nat) (w : World) : Nat := match w.heap[r]? with | some (.mapIter _ _ s _) => 1 - s.size | _ => 0
theorem mk54_0 (u : World) : (Instr.makeSlice 54 (.int .i64 0) (.int .i64 0)).run Tryz.prog u = .ok (.slice (some ⟨u.heap.size, 0, none⟩) 0 0) (u.alloc (.cells #[] 39)) := by kernel_rfl
theorem mk54_1 (u : World) : (Instr.makeSlice 54 (.int .i64 1) (.int .i64 1)).run Tryz.prog u = .ok (.slice (some ⟨u.heap.size, 0, none⟩) 1 1) (u.alloc (.cells #[.slice none 0 0] 39)) := by kernel_rfl
theorem mk22_0 (u : World) : (Instr.makeSlice 22 (.int .i64 0) (.int .i64 0)).run Tryz.prog u = .ok (.slice (some ⟨u.heap.size, 0, none⟩) 0 0) (u.alloc (.cells #[] 3)) := by kernel_rfl
theorem mk22_1 (u : World) : (Instr.makeSlice 22 (.int .i64 1) (.int .i64 1)).run Tryz.prog u = .ok (.slice (some ⟨u.heap.size, 0, none⟩) 1 1) (u.alloc (.cells #[.int .i64 0] 3)) := by kernel_rfl
theorem ap54 : Ap Tryz.prog 54 39 1 24 := ⟨Tryz.underlying54, by
  obtain ⟨ti, hti, hz, hs, hb⟩ := info_of (show (Tryz.prog.info? 39).map (fun i => (i.zero, i.size, i.bytes)) = some (some (.agg #[.slice none 0 0]), 1, 24) by kernel_rfl)
  exact ⟨ti, _, hti, hz, hs, hb, rfl⟩, by decide, by decide⟩
theorem two_allocs {w : World} {S a b : Nat} (o1 o2 : Obj) (hS : w.heap.size = S) (ha : a = S) (hb : b = S + 1) : ∀ w1, w1 = (w.alloc o1).alloc o2 → Low w.heap.size w w1 ∧ w1.heap[a]? = some o1 ∧ w1.heap[b]? = some o2 := by
  rintro w1 rfl
  subst ha hb
  obtain ⟨a1, s1, u1⟩ := alloc_at o1 hS
  obtain ⟨a2, s2, u2⟩ := alloc_at o2 s1
  exact ⟨((Low.refl _ w).alloc (Nat.le_refl _) _).alloc (by simp) _, u2 _ _ a1, a2⟩
end Go.Proofs.YtnjdegjpmbdboaaGreat
