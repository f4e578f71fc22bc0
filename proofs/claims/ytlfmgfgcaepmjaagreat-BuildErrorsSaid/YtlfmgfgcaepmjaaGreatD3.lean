/- The region in which operators lays its map, in any order. -/
import Derived.Test.YtlfmgfgcaepmjaaGreatD2
set_option linter.unusedSimpArgs false
set_option linter.unusedVariables false
set_option linter.unusedSectionVars false
set_option linter.unusedSimpArgs false
set_option linter.unusedVariables false
set_option linter.unusedSectionVars false
namespace Go.Proofs.YtlfmgfgcaepmjaaGreat
open Go.RowKit Go.Eng
set_option linter.unusedVariables false
set_option linter.unusedSimpArgs false
set_option maxRecDepth 100000
noncomputable def regionIn (id : Nat) : Code → Option (Array Oper)
  | .region i ops _ => if i = id then some ops else none
  | .seq a b => (regionIn id a).or (regionIn id b)
  | .cond _ a b => (regionIn id a).or (regionIn id b)
  | _ => none
noncomputable def ops5 : Array Oper := ((Tryz.f576.body.bind (regionIn 5)).getD #[])
def fnS (bx : Value) : Value := .func (.func 647) #[] #[bx]
def fnP (bx : Value) (c : Nat) : Value := .func (.func 648) #[] #[bx, .pointer (some ⟨c, 0, none⟩)]
def keysO : List (Nat × ByteArray) := [(3, ⟨#[43]⟩), (6, ⟨#[45]⟩), (9, ⟨#[42]⟩), (12, ⟨#[38]⟩), (15, ⟨#[124]⟩), (18, ⟨#[94]⟩), (21, ⟨#[60, 60]⟩), (23, ⟨#[62, 62]⟩), (25, ⟨#[47]⟩), (28, ⟨#[61, 61]⟩), (30, ⟨#[60]⟩), (32, ⟨#[37]⟩), (34, ⟨#[33, 61]⟩), (36, ⟨#[62]⟩), (38, ⟨#[60, 61]⟩), (40, ⟨#[62, 61]⟩)]
theorem keysO_inj : ∀ x ∈ keysO, ∀ y ∈ keysO, x.2 = y.2 → x.1 = y.1 := by decide
def slO (bx : Value) (lx qx m c : Nat) : List (Option Nat × Nat × Value) := [(none, 2, bx), (none, 5, fnS bx), (none, 6, .pointer (some ⟨lx, 0, none⟩)), (none, 8, .pointer (some ⟨qx, 0, none⟩)), (some 0, 23, .map (some m)), (some 1, 24, fnS bx), (some 2, 25, fnP bx c), (some 4, 26, fnS bx), (some 7, 28, fnS bx), (some 10, 30, fnS bx), (some 13, 32, fnS bx), (some 16, 34, fnS bx), (some 19, 36, fnS bx), (some 26, 40, fnS bx), (some 41, 48, .map (some m)), (some 42, 4, .map (some m))]
theorem op0 : OpAt ops5 0 (.makeMap 656 none) (some 23) := ⟨_, rfl, rfl, rfl, rfl⟩
theorem op1 : OpAt ops5 1 (.move (.tmp 5)) (some 24) := ⟨_, rfl, rfl, rfl, rfl⟩
theorem op4 : OpAt ops5 4 (.move (.tmp 5)) (some 26) := ⟨_, rfl, rfl, rfl, rfl⟩
theorem op7 : OpAt ops5 7 (.move (.tmp 5)) (some 28) := ⟨_, rfl, rfl, rfl, rfl⟩
theorem op10 : OpAt ops5 10 (.move (.tmp 5)) (some 30) := ⟨_, rfl, rfl, rfl, rfl⟩
theorem op13 : OpAt ops5 13 (.move (.tmp 5)) (some 32) := ⟨_, rfl, rfl, rfl, rfl⟩
theorem op16 : OpAt ops5 16 (.move (.tmp 5)) (some 34) := ⟨_, rfl, rfl, rfl, rfl⟩
theorem op19 : OpAt ops5 19 (.move (.tmp 5)) (some 36) := ⟨_, rfl, rfl, rfl, rfl⟩
theorem op26 : OpAt ops5 26 (.move (.tmp 5)) (some 40) := ⟨_, rfl, rfl, rfl, rfl⟩
theorem op2 : ∃ ts, OpAt ops5 2 (.call ⟨.value (.tmp 24), #[.const (.int .i64 5)], ts⟩) (some 25) := ⟨_, _, rfl, rfl, rfl, rfl⟩
theorem op5 : ∃ ts, OpAt ops5 5 (.call ⟨.value (.tmp 26), #[.const (.int .i64 6)], ts⟩) (some 27) := ⟨_, _, rfl, rfl, rfl, rfl⟩
theorem op8 : ∃ ts, OpAt ops5 8 (.call ⟨.value (.tmp 28), #[.const (.int .i64 7)], ts⟩) (some 29) := ⟨_, _, rfl, rfl, rfl, rfl⟩
theorem op11 : ∃ ts, OpAt ops5 11 (.call ⟨.value (.tmp 30), #[.const (.int .i64 9)], ts⟩) (some 31) := ⟨_, _, rfl, rfl, rfl, rfl⟩
theorem op14 : ∃ ts, OpAt ops5 14 (.call ⟨.value (.tmp 32), #[.const (.int .i64 10)], ts⟩) (some 33) := ⟨_, _, rfl, rfl, rfl, rfl⟩
theorem op17 : ∃ ts, OpAt ops5 17 (.call ⟨.value (.tmp 34), #[.const (.int .i64 11)], ts⟩) (some 35) := ⟨_, _, rfl, rfl, rfl, rfl⟩
theorem op20 : ∃ ts, OpAt ops5 20 (.call ⟨.value (.tmp 36), #[.const (.int .i64 12)], ts⟩) (some 37) := ⟨_, _, rfl, rfl, rfl, rfl⟩
theorem op27 : ∃ ts, OpAt ops5 27 (.call ⟨.value (.tmp 40), #[.const (.int .i64 15)], ts⟩) (some 41) := ⟨_, _, rfl, rfl, rfl, rfl⟩
theorem op3 : OpAt ops5 3 (.insert 656 (.tmp 23) (.const (.string ⟨#[43]⟩)) (.tmp 25)) none := ⟨_, rfl, rfl, rfl, rfl⟩
theorem op6 : OpAt ops5 6 (.insert 656 (.tmp 23) (.const (.string ⟨#[45]⟩)) (.tmp 27)) none := ⟨_, rfl, rfl, rfl, rfl⟩
theorem op9 : OpAt ops5 9 (.insert 656 (.tmp 23) (.const (.string ⟨#[42]⟩)) (.tmp 29)) none := ⟨_, rfl, rfl, rfl, rfl⟩
theorem op12 : OpAt ops5 12 (.insert 656 (.tmp 23) (.const (.string ⟨#[38]⟩)) (.tmp 31)) none := ⟨_, rfl, rfl, rfl, rfl⟩
theorem op15 : OpAt ops5 15 (.insert 656 (.tmp 23) (.const (.string ⟨#[124]⟩)) (.tmp 33)) none := ⟨_, rfl, rfl, rfl, rfl⟩
theorem op18 : OpAt ops5 18 (.insert 656 (.tmp 23) (.const (.string ⟨#[94]⟩)) (.tmp 35)) none := ⟨_, rfl, rfl, rfl, rfl⟩
theorem op21 : OpAt ops5 21 (.insert 656 (.tmp 23) (.const (.string ⟨#[60, 60]⟩)) (.tmp 37)) none := ⟨_, rfl, rfl, rfl, rfl⟩
theorem op23 : OpAt ops5 23 (.insert 656 (.tmp 23) (.const (.string ⟨#[62, 62]⟩)) (.tmp 38)) none := ⟨_, rfl, rfl, rfl, rfl⟩
theorem op25 : OpAt ops5 25 (.insert 656 (.tmp 23) (.const (.string ⟨#[47]⟩)) (.tmp 39)) none := ⟨_, rfl, rfl, rfl, rfl⟩
theorem op28 : OpAt ops5 28 (.insert 656 (.tmp 23) (.const (.string ⟨#[61, 61]⟩)) (.tmp 41)) none := ⟨_, rfl, rfl, rfl, rfl⟩
theorem op30 : OpAt ops5 30 (.insert 656 (.tmp 23) (.const (.string ⟨#[60]⟩)) (.tmp 42)) none := ⟨_, rfl, rfl, rfl, rfl⟩
theorem op32 : OpAt ops5 32 (.insert 656 (.tmp 23) (.const (.string ⟨#[37]⟩)) (.tmp 43)) none := ⟨_, rfl, rfl, rfl, rfl⟩
theorem op34 : OpAt ops5 34 (.insert 656 (.tmp 23) (.const (.string ⟨#[33, 61]⟩)) (.tmp 44)) none := ⟨_, rfl, rfl, rfl, rfl⟩
theorem op36 : OpAt ops5 36 (.insert 656 (.tmp 23) (.const (.string ⟨#[62]⟩)) (.tmp 45)) none := ⟨_, rfl, rfl, rfl, rfl⟩
theorem op38 : OpAt ops5 38 (.insert 656 (.tmp 23) (.const (.string ⟨#[60, 61]⟩)) (.tmp 46)) none := ⟨_, rfl, rfl, rfl, rfl⟩
theorem op40 : OpAt ops5 40 (.insert 656 (.tmp 23) (.const (.string ⟨#[62, 61]⟩)) (.tmp 47)) none := ⟨_, rfl, rfl, rfl, rfl⟩
theorem op22 : OpAt ops5 22 (.move (.tmp 7)) (some 38) := ⟨_, rfl, rfl, rfl, rfl⟩
theorem op24 : OpAt ops5 24 (.load 321 (.tmp 8)) (some 39) := ⟨_, rfl, rfl, rfl, rfl⟩
theorem op29 : OpAt ops5 29 (.load 321 (.tmp 6)) (some 42) := ⟨_, rfl, rfl, rfl, rfl⟩
theorem op31 : ∃ f x y, OpAt ops5 31 (.makeFunc f x y) (some 43) := ⟨_, _, _, _, rfl, rfl, rfl, rfl⟩
theorem op33 : ∃ f x y, OpAt ops5 33 (.makeFunc f x y) (some 44) := ⟨_, _, _, _, rfl, rfl, rfl, rfl⟩
theorem op35 : ∃ f x y, OpAt ops5 35 (.makeFunc f x y) (some 45) := ⟨_, _, _, _, rfl, rfl, rfl, rfl⟩
theorem op37 : ∃ f x y, OpAt ops5 37 (.makeFunc f x y) (some 46) := ⟨_, _, _, _, rfl, rfl, rfl, rfl⟩
theorem op39 : ∃ f x y, OpAt ops5 39 (.makeFunc f x y) (some 47) := ⟨_, _, _, _, rfl, rfl, rfl, rfl⟩
theorem op41 : OpAt ops5 41 (.move (.tmp 23)) (some 48) := ⟨_, rfl, rfl, rfl, rfl⟩
theorem op42 : OpAt ops5 42 (.assign (.tmp 48)) (some 4) := ⟨_, rfl, rfl, rfl, rfl⟩
/-- What the map and the new variable are. -/
structure WorldO (w0 : World) (real : Nat → Prop) (bx : Value) (m c : Nat) (w : World) : Prop where
  low : Low w0.heap.size w0 w
  map : real 0 → w0.heap.size ≤ m ∧ ∃ es clock, w.heap[m]? = some (.map es clock) ∧ (∀ e ∈ es.toList, ∃ i k, real i ∧ (i, k) ∈ keysO ∧ e.key = .string k ∧ (i = 3 → e.val = fnP bx c)) ∧ (real 3 → ∃ e ∈ es.toList, e.key = .string ⟨#[43]⟩)
  code : real 2 → w0.heap.size ≤ c ∧ w.heap[c]? = some (.cells #[.int .i64 5] 3)
def InvO (w0 : World) (bx : Value) (lx qx : Nat) (real : Nat → Prop) (a : Act) (w : World) : Prop :=
  a.tmps.size = 49 ∧ a.defers = [] ∧ ∃ m c, Slots real (slO bx lx qx m c) a.tmps ∧ WorldO w0 real bx m c w
section
variable {w0 w : World} {real : Nat → Prop} {bx : Value} {m c lx qx : Nat} {tmps : Array Value}
theorem WorldO.more (h : WorldO w0 real bx m c w) {i : Nat} (h0 : i ≠ 0) (h2 : i ≠ 2) (h3 : i ≠ 3) : WorldO w0 (fun j => real j ∨ j = i) bx m c w := by
  refine ⟨h.low, fun hr => ?_, fun hr => h.code (hr.resolve_right (Ne.symm h2))⟩
  obtain ⟨g1, es, clock, g2, g3, g4⟩ := h.map (hr.resolve_right (Ne.symm h0))
  refine ⟨g1, es, clock, g2, fun e he => ?_, fun hr => g4 (hr.resolve_right (Ne.symm h3))⟩
  obtain ⟨j, k, q1, q2⟩ := g3 e he
  exact ⟨j, k, .inl q1, q2⟩
theorem WorldO.alloc (h : WorldO w0 real bx m c w) (o : Obj) : WorldO w0 real bx m c (w.alloc o) := by
  refine ⟨h.low.alloc h.low.size o, fun hr => ?_, fun hr => ?_⟩
  · obtain ⟨g1, es, clock, g2, g3⟩ := h.map hr
    exact ⟨g1, es, clock, heap_old o g2, g3⟩
  · obtain ⟨g1, g2⟩ := h.code hr
    exact ⟨g1, heap_old o g2⟩
theorem slots_m {m' : Nat} (h : Slots real (slO bx lx qx m c) tmps) (h0 : ¬ real 0) (h1 : ¬ real 41) (h2 : ¬ real 42) : Slots real (slO bx lx qx m' c) tmps := by
  intro x hx hr
  simp only [slO, List.mem_cons, List.not_mem_nil, or_false] at hx
  rcases hx with rfl | rfl | rfl | rfl | rfl | rfl | rfl | rfl | rfl | rfl | rfl | rfl | rfl | rfl | rfl | rfl <;> first | exact (h0 (hr _ rfl)).elim | exact (h1 (hr _ rfl)).elim | exact (h2 (hr _ rfl)).elim | exact h _ (by simp [slO]) hr
theorem slots_c {c' : Nat} (h : Slots real (slO bx lx qx m c) tmps) (h2 : ¬ real 2) : Slots real (slO bx lx qx m c') tmps := by
  intro x hx hr
  simp only [slO, List.mem_cons, List.not_mem_nil, or_false] at hx
  rcases hx with rfl | rfl | rfl | rfl | rfl | rfl | rfl | rfl | rfl | rfl | rfl | rfl | rfl | rfl | rfl | rfl <;> first | exact (h2 (hr _ rfl)).elim | exact h _ (by simp [slO]) hr
theorem slot_at (h : Slots real (slO bx lx qx m c) tmps) {x : Option Nat × Nat × Value} (hx : x ∈ slO bx lx qx m c) (hr : ∀ j, x.1 = some j → real j) : tmps.getD x.2.1 undef = x.2.2 := h x hx hr
end
section
variable {w0 : World} {bx : Value} {lx qx : Nat} {real : Nat → Prop} {i d : Nat} {a : Act} {w : World} {Q : Exit → Act → World → Prop} {K : Act → World → Prop}
/-- A value goes into a slot of which nothing is asked, or the right one. -/
theorem inv_put (h : InvO w0 bx lx qx real a w) {v : Value} (hd : d < 49) (h0 : i ≠ 0) (h2 : i ≠ 2) (h3 : i ≠ 3) (hS : ∀ m c, Slots real (slO bx lx qx m c) a.tmps → ∀ x ∈ slO bx lx qx m c, (x.1 = some i → x.2.1 = d ∧ x.2.2 = v) ∧ (x.1 ≠ some i → x.2.1 ≠ d)) :
    InvO w0 bx lx qx (fun j => real j ∨ j = i) (a.put (some d) v) w := by
  obtain ⟨g1, g2, m, c, g3, g4⟩ := h
  exact ⟨by simp [Act.put, g1], g2, m, c, g3.put (by rw [g1]; exact hd) (hS m c g3), g4.more h0 h2 h3⟩
theorem step_move {s : Nat} {v : Value} (ho : OpAt ops5 i (.move (.tmp s)) (some d)) (hv : a.tmps.getD s undef = v) (h : InvO w0 bx lx qx (fun j => real j ∨ j = i) (a.put (some d) v) w) (hK : ∀ a' w', InvO w0 bx lx qx (fun j => real j ∨ j = i) a' w' → K a' w') : wpOp Tryz.prog ops5 Q i K a w :=
  wpOp_value ho (fun o hop => by simp only [execOp, hop]; exact congrArg (fun v => Result.ok (Next.value v) w) hv) (hK _ _ h)
theorem step_call {s : Nat} {code : Int} {ts : Array TypeId} (ho : OpAt ops5 i (.call ⟨.value (.tmp s), #[.const (.int .i64 code)], ts⟩) (some d)) (hv : a.tmps.getD s undef = fnS bx)
    (h : InvO w0 bx lx qx (fun j => real j ∨ j = i) (a.put (some d) (fnP bx w.heap.size)) (w.alloc (.cells #[.int .i64 code] 3))) (hK : ∀ a' w', InvO w0 bx lx qx (fun j => real j ∨ j = i) a' w' → K a' w') : wpOp Tryz.prog ops5 Q i K a w := by
  letI : Eng.Sym := { val := fun _ => 0 }
  letI : Eng.Hooks := { hk := fun _ => none }
  refine wpOp_enter (f := 647) (args := #[.int .i64 code, bx]) (w' := w) ho (fun o hop => ?_) ?_
  · have hc : ∀ args, (callFunc 647 args).run Tryz.prog w = .ok (.enter 647 args) w := fun args => callFunc_run Tryz.func647 rfl (by decide) args w
    have he : a.eval (.tmp s) = fnS bx := hv
    simp only [execOp, hop, resolve, he, fnS, Deferred.ofValue, Sem.run_bind, Sem.run_pure, Result.andThen_ok, invoke]
    have e : (#[] ++ Array.map a.eval #[Operand.const (Value.int IntKind.i64 code)] ++ #[bx] : Array Value) = #[.int .i64 code, bx] := by simp [Act.eval]
    rw [e]
    exact hc _
  · refine (simple_any bx code w).mono ?_
    rintro e w' ⟨rfl, rfl⟩
    exact ⟨_, rfl, hK _ _ h⟩
theorem step_insert {s : Nat} {k : ByteArray} (ho : OpAt ops5 i (.insert 656 (.tmp 23) (.const (.string k)) (.tmp s)) none) (hk : (i, k) ∈ keysO) (hr0 : real 0) (hnr : ¬ real i) (h : InvO w0 bx lx qx real a w) (h0 : i ≠ 0) (h2 : i ≠ 2)
    (hi : ∀ m c, ∀ x ∈ slO bx lx qx m c, x.1 ≠ some i) (h3 : i = 3 → ∀ m c, Slots real (slO bx lx qx m c) a.tmps → a.tmps.getD s undef = fnP bx c) (hk3 : i = 3 → k = ⟨#[43]⟩) (hK : ∀ a' w', InvO w0 bx lx qx (fun j => real j ∨ j = i) a' w' → K a' w') : wpOp Tryz.prog ops5 Q i K a w := by
  obtain ⟨g1, g2, m, c, g3, g4⟩ := h
  obtain ⟨q1, es, clock, q2, q3, q4⟩ := g4.map hr0
  have hm : a.eval (.tmp 23) = .map (some m) := slot_at g3 (x := (some 0, 23, .map (some m))) (by simp [slO]) (by rintro j ⟨⟩; exact hr0)
  have hne : ∀ e ∈ es.toList, ∃ s, e.key = .string s ∧ s ≠ k := fun e he => by
    obtain ⟨j, k', e1, e2, e3, _⟩ := q3 e he
    refine ⟨k', e3, fun hkk => hnr ?_⟩
    have := keysO_inj _ e2 _ hk hkk
    have : j = i := this
    exact this ▸ e1
  have hrun := insert_run (P := Tryz.prog) Tryz.underlying656 Tryz.underlying9 q2 hne (a.eval (.tmp s))
  refine wpOp_skip (w' := { w with heap := w.heap.setIfInBounds m (.map (es.push ⟨.string k, a.eval (.tmp s), clock⟩) (clock + 1)) }) ho (fun o hop => ?_) (hK _ _ ⟨g1, g2, m, c, g3.same (hi m c), ?_⟩)
  · have e1 : a.eval (.const (.string k)) = .string k := rfl
    simp only [execOp, hop, hm, e1, Sem.run_bind, hrun, Result.andThen_ok, Sem.run_pure]
  · have hmz : m < w.heap.size := heap_lt q2
    have hother : ∀ b, b ≠ m → (w.heap.setIfInBounds m (.map (es.push ⟨.string k, a.eval (.tmp s), clock⟩) (clock + 1)))[b]? = w.heap[b]? := fun b hb => Array.getElem?_setIfInBounds_ne (Ne.symm hb)
    refine ⟨g4.low.trans ⟨rfl, rfl, by simp, fun g hg => hother g (by omega)⟩, fun _ => ⟨q1, _, clock + 1, by simp [hmz]; rfl, fun e he => ?_, fun hr => ?_⟩, fun hr => ?_⟩
    · rw [Array.toList_push, List.mem_append, List.mem_singleton] at he
      rcases he with he | rfl
      · obtain ⟨j, k', e1, e2⟩ := q3 e he
        exact ⟨j, k', .inl e1, e2⟩
      · exact ⟨i, k, .inr rfl, hk, rfl, fun e => h3 e m c g3⟩
    · rw [Array.toList_push]
      rcases hr with hr | rfl
      · obtain ⟨e, he, hek⟩ := q4 hr
        exact ⟨e, List.mem_append_left _ he, hek⟩
      · exact ⟨_, List.mem_append_right _ (List.mem_singleton.2 rfl), by rw [hk3 rfl]⟩
    · obtain ⟨e1, e2⟩ := g4.code (hr.resolve_right (Ne.symm h2))
      refine ⟨e1, ?_⟩
      show (w.heap.setIfInBounds m _)[c]? = _
      rw [hother c (by rintro rfl; rw [q2] at e2; cases e2)]
      exact e2
end
end Go.Proofs.YtlfmgfgcaepmjaaGreat
