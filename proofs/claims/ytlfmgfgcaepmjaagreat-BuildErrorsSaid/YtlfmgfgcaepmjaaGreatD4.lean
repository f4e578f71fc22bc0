/- Each operation of the region keeps what holds; the region whole. -/
import Derived.Test.YtlfmgfgcaepmjaaGreatD3
set_option linter.unusedSimpArgs false
set_option linter.unusedVariables false
set_option linter.unusedSectionVars false
set_option linter.unusedSimpArgs false
set_option linter.unusedVariables false
set_option linter.unusedSectionVars false
namespace Go.Proofs.YtlfmgfgcaepmjaaGreat
open Go.RowKit Go.Eng
set_option linter.unusedVariables false
set_option linter.unusedSimpArgs false
set_option maxRecDepth 100000
def predsL : List (List Nat) := [[], [], [1], [0, 2], [], [4, 2], [0, 5], [], [7, 5], [0, 8], [], [10, 8], [0, 11], [], [13, 11], [0, 14], [], [16, 14], [0, 17], [], [19, 17], [0, 20], [], [0, 22], [], [0, 24], [], [26, 20], [0, 27], [], [0, 29], [], [0, 31], [], [0, 33], [], [0, 35], [], [0, 37], [], [0, 39], [0, 1, 2, 3, 4, 5, 6, 7, 8, 9, 10, 11, 12, 13, 14, 15, 16, 17, 18, 19, 20, 21, 22, 23, 24, 25, 26, 27, 28, 29, 30, 31, 32, 33, 34, 35, 36, 37, 38, 39, 40], [41, 27, 0, 1, 2, 3, 4, 5, 6, 7, 8, 9, 10, 11, 12, 13, 14, 15, 16, 17, 18, 19, 20, 21, 22, 23, 24, 25, 26, 27, 28, 29, 30, 31, 32, 33, 34, 35, 36, 37, 38, 39, 40, 41]]
def preds5 (j : Nat) : List Nat := predsL.getD j []
theorem preds5_eq : (List.range 43).all (fun j => (Eng.preds ops5 j).all (preds5 j).contains && (preds5 j).all (Eng.preds ops5 j).contains) = true := by kernel_rfl
theorem preds5_mem {j p : Nat} (hj : j < 43) : p ∈ Eng.preds ops5 j ↔ p ∈ preds5 j := by
  have h := List.all_eq_true.1 preds5_eq j (List.mem_range.2 hj)
  rw [Bool.and_eq_true, List.all_eq_true, List.all_eq_true] at h
  exact ⟨fun hp => by simpa using h.1 p hp, fun hp => by simpa using h.2 p hp⟩
theorem ops5_size : ops5.size = 43 := by kernel_rfl
theorem keep0 {w0 : World} {bx : Value} {lx qx : Nat} (hl : ∃ v, w0.heap[lx]? = some (.cells #[v] 321)) (hq : ∃ v, w0.heap[qx]? = some (.cells #[v] 321)) {real : Nat → Prop} {a : Act} {w : World} (hI : InvO w0 bx lx qx real a w) (hnr : ¬ real 0) (hcl : ∀ j, real j → ∀ p ∈ preds5 j, real p) (hp : ∀ j ∈ preds5 0, real j) {Q : Exit → Act → World → Prop} {K : Act → World → Prop} (hK : ∀ a' w', InvO w0 bx lx qx (fun j => real j ∨ j = 0) a' w' → K a' w') : wpOp Tryz.prog ops5 Q 0 K a w := by
    obtain ⟨g1, g2, m, c, g3, g4⟩ := hI
    have n41 : ¬ real 41 := fun hr => hnr (hcl 41 hr 0 (by decide))
    have n42 : ¬ real 42 := fun hr => hnr (hcl 42 hr 0 (by decide))
    refine wpOp_value op0 (v := .map (some w.heap.size)) (w' := w.alloc (.map #[] 0)) (fun o hop => by simp only [execOp, hop]; rfl) (hK _ _ ⟨by simp [Act.put, g1], g2, w.heap.size, c, (slots_m g3 hnr n41 n42).put (by rw [g1]; decide) (by simp [slO, fnS, fnP]), ?_⟩)
    refine ⟨g4.low.alloc g4.low.size _, fun _ => ⟨g4.low.size, #[], 0, heap_new w _, fun e he => by simp at he, fun hr => ?_⟩, fun hr => ?_⟩
    · rcases hr with hr | hr
      · exact (hnr (hcl 3 hr 0 (by decide))).elim
      · cases hr
    · obtain ⟨e1, e2⟩ := g4.code (hr.resolve_right (by decide))
      exact ⟨e1, heap_old _ e2⟩
theorem keep1 {w0 : World} {bx : Value} {lx qx : Nat} (hl : ∃ v, w0.heap[lx]? = some (.cells #[v] 321)) (hq : ∃ v, w0.heap[qx]? = some (.cells #[v] 321)) {real : Nat → Prop} {a : Act} {w : World} (hI : InvO w0 bx lx qx real a w) (hnr : ¬ real 1) (hcl : ∀ j, real j → ∀ p ∈ preds5 j, real p) (hp : ∀ j ∈ preds5 1, real j) {Q : Exit → Act → World → Prop} {K : Act → World → Prop} (hK : ∀ a' w', InvO w0 bx lx qx (fun j => real j ∨ j = 1) a' w' → K a' w') : wpOp Tryz.prog ops5 Q 1 K a w := by
    exact step_move op1 (slot_at hI.2.2.choose_spec.choose_spec.1 (x := (none, 5, fnS bx)) (by simp [slO]) (by intro j hj; cases hj)) (inv_put hI (by decide) (by decide) (by decide) (by decide) (by intro m c _; simp [slO, fnS, fnP])) hK
theorem keep2 {w0 : World} {bx : Value} {lx qx : Nat} (hl : ∃ v, w0.heap[lx]? = some (.cells #[v] 321)) (hq : ∃ v, w0.heap[qx]? = some (.cells #[v] 321)) {real : Nat → Prop} {a : Act} {w : World} (hI : InvO w0 bx lx qx real a w) (hnr : ¬ real 2) (hcl : ∀ j, real j → ∀ p ∈ preds5 j, real p) (hp : ∀ j ∈ preds5 2, real j) {Q : Exit → Act → World → Prop} {K : Act → World → Prop} (hK : ∀ a' w', InvO w0 bx lx qx (fun j => real j ∨ j = 2) a' w' → K a' w') : wpOp Tryz.prog ops5 Q 2 K a w := by
    obtain ⟨ts, ho⟩ := op2
    have hr1 : real 1 := hp 1 (by decide)
    obtain ⟨g1, g2, m, c, g3, g4⟩ := hI
    refine step_call ho (slot_at g3 (x := (some 1, 24, fnS bx)) (by simp [slO]) (by rintro j ⟨⟩; exact hr1)) ⟨by simp [Act.put, g1], g2, m, w.heap.size, (slots_c g3 hnr).put (by rw [g1]; decide) (by simp [slO, fnS, fnP]), ?_⟩ hK
    refine ⟨g4.low.alloc g4.low.size _, fun hr => ?_, fun _ => ⟨g4.low.size, heap_new w _⟩⟩
    obtain ⟨e1, es, clock, e2, e3, e4⟩ := g4.map (hr.resolve_right (by decide))
    have n3 : ¬ real 3 := fun hr => hnr (hcl 3 hr 2 (by decide))
    refine ⟨e1, es, clock, heap_old _ e2, fun e he => ?_, fun hr => e4 (hr.resolve_right (by decide))⟩
    obtain ⟨j, k, f1, f2, f3, _⟩ := e3 e he
    exact ⟨j, k, .inl f1, f2, f3, fun e => (n3 (e ▸ f1)).elim⟩
theorem keep3 {w0 : World} {bx : Value} {lx qx : Nat} (hl : ∃ v, w0.heap[lx]? = some (.cells #[v] 321)) (hq : ∃ v, w0.heap[qx]? = some (.cells #[v] 321)) {real : Nat → Prop} {a : Act} {w : World} (hI : InvO w0 bx lx qx real a w) (hnr : ¬ real 3) (hcl : ∀ j, real j → ∀ p ∈ preds5 j, real p) (hp : ∀ j ∈ preds5 3, real j) {Q : Exit → Act → World → Prop} {K : Act → World → Prop} (hK : ∀ a' w', InvO w0 bx lx qx (fun j => real j ∨ j = 3) a' w' → K a' w') : wpOp Tryz.prog ops5 Q 3 K a w := by
    exact step_insert op3 (by simp [keysO]) (hp 0 (by decide)) hnr hI (by decide) (by decide) (by intro m c; simp [slO]) (fun _ m c g3 => slot_at g3 (x := (some 2, 25, fnP bx c)) (by simp [slO]) (by rintro j ⟨⟩; exact hp 2 (by decide))) (fun _ => rfl) hK
theorem keep4 {w0 : World} {bx : Value} {lx qx : Nat} (hl : ∃ v, w0.heap[lx]? = some (.cells #[v] 321)) (hq : ∃ v, w0.heap[qx]? = some (.cells #[v] 321)) {real : Nat → Prop} {a : Act} {w : World} (hI : InvO w0 bx lx qx real a w) (hnr : ¬ real 4) (hcl : ∀ j, real j → ∀ p ∈ preds5 j, real p) (hp : ∀ j ∈ preds5 4, real j) {Q : Exit → Act → World → Prop} {K : Act → World → Prop} (hK : ∀ a' w', InvO w0 bx lx qx (fun j => real j ∨ j = 4) a' w' → K a' w') : wpOp Tryz.prog ops5 Q 4 K a w := by
    exact step_move op4 (slot_at hI.2.2.choose_spec.choose_spec.1 (x := (none, 5, fnS bx)) (by simp [slO]) (by intro j hj; cases hj)) (inv_put hI (by decide) (by decide) (by decide) (by decide) (by intro m c _; simp [slO, fnS, fnP])) hK
theorem keep5 {w0 : World} {bx : Value} {lx qx : Nat} (hl : ∃ v, w0.heap[lx]? = some (.cells #[v] 321)) (hq : ∃ v, w0.heap[qx]? = some (.cells #[v] 321)) {real : Nat → Prop} {a : Act} {w : World} (hI : InvO w0 bx lx qx real a w) (hnr : ¬ real 5) (hcl : ∀ j, real j → ∀ p ∈ preds5 j, real p) (hp : ∀ j ∈ preds5 5, real j) {Q : Exit → Act → World → Prop} {K : Act → World → Prop} (hK : ∀ a' w', InvO w0 bx lx qx (fun j => real j ∨ j = 5) a' w' → K a' w') : wpOp Tryz.prog ops5 Q 5 K a w := by
    obtain ⟨ts, ho⟩ := op5
    have hr4 : real 4 := hp 4 (by decide)
    obtain ⟨g1, g2, m, c, g3, g4⟩ := hI
    exact step_call ho (slot_at g3 (x := (some 4, 26, fnS bx)) (by simp [slO]) (by rintro j ⟨⟩; exact hr4)) ⟨by simp [Act.put, g1], g2, m, c, g3.put (by rw [g1]; decide) (by simp [slO, fnS, fnP]), (g4.alloc _).more (by decide) (by decide) (by decide)⟩ hK
theorem keep6 {w0 : World} {bx : Value} {lx qx : Nat} (hl : ∃ v, w0.heap[lx]? = some (.cells #[v] 321)) (hq : ∃ v, w0.heap[qx]? = some (.cells #[v] 321)) {real : Nat → Prop} {a : Act} {w : World} (hI : InvO w0 bx lx qx real a w) (hnr : ¬ real 6) (hcl : ∀ j, real j → ∀ p ∈ preds5 j, real p) (hp : ∀ j ∈ preds5 6, real j) {Q : Exit → Act → World → Prop} {K : Act → World → Prop} (hK : ∀ a' w', InvO w0 bx lx qx (fun j => real j ∨ j = 6) a' w' → K a' w') : wpOp Tryz.prog ops5 Q 6 K a w := by
    exact step_insert op6 (by simp [keysO]) (hp 0 (by decide)) hnr hI (by decide) (by decide) (by intro m c; simp [slO]) (fun e => by cases e) (fun e => by cases e) hK
theorem keep7 {w0 : World} {bx : Value} {lx qx : Nat} (hl : ∃ v, w0.heap[lx]? = some (.cells #[v] 321)) (hq : ∃ v, w0.heap[qx]? = some (.cells #[v] 321)) {real : Nat → Prop} {a : Act} {w : World} (hI : InvO w0 bx lx qx real a w) (hnr : ¬ real 7) (hcl : ∀ j, real j → ∀ p ∈ preds5 j, real p) (hp : ∀ j ∈ preds5 7, real j) {Q : Exit → Act → World → Prop} {K : Act → World → Prop} (hK : ∀ a' w', InvO w0 bx lx qx (fun j => real j ∨ j = 7) a' w' → K a' w') : wpOp Tryz.prog ops5 Q 7 K a w := by
    exact step_move op7 (slot_at hI.2.2.choose_spec.choose_spec.1 (x := (none, 5, fnS bx)) (by simp [slO]) (by intro j hj; cases hj)) (inv_put hI (by decide) (by decide) (by decide) (by decide) (by intro m c _; simp [slO, fnS, fnP])) hK
theorem keep8 {w0 : World} {bx : Value} {lx qx : Nat} (hl : ∃ v, w0.heap[lx]? = some (.cells #[v] 321)) (hq : ∃ v, w0.heap[qx]? = some (.cells #[v] 321)) {real : Nat → Prop} {a : Act} {w : World} (hI : InvO w0 bx lx qx real a w) (hnr : ¬ real 8) (hcl : ∀ j, real j → ∀ p ∈ preds5 j, real p) (hp : ∀ j ∈ preds5 8, real j) {Q : Exit → Act → World → Prop} {K : Act → World → Prop} (hK : ∀ a' w', InvO w0 bx lx qx (fun j => real j ∨ j = 8) a' w' → K a' w') : wpOp Tryz.prog ops5 Q 8 K a w := by
    obtain ⟨ts, ho⟩ := op8
    have hr7 : real 7 := hp 7 (by decide)
    obtain ⟨g1, g2, m, c, g3, g4⟩ := hI
    exact step_call ho (slot_at g3 (x := (some 7, 28, fnS bx)) (by simp [slO]) (by rintro j ⟨⟩; exact hr7)) ⟨by simp [Act.put, g1], g2, m, c, g3.put (by rw [g1]; decide) (by simp [slO, fnS, fnP]), (g4.alloc _).more (by decide) (by decide) (by decide)⟩ hK
theorem keep9 {w0 : World} {bx : Value} {lx qx : Nat} (hl : ∃ v, w0.heap[lx]? = some (.cells #[v] 321)) (hq : ∃ v, w0.heap[qx]? = some (.cells #[v] 321)) {real : Nat → Prop} {a : Act} {w : World} (hI : InvO w0 bx lx qx real a w) (hnr : ¬ real 9) (hcl : ∀ j, real j → ∀ p ∈ preds5 j, real p) (hp : ∀ j ∈ preds5 9, real j) {Q : Exit → Act → World → Prop} {K : Act → World → Prop} (hK : ∀ a' w', InvO w0 bx lx qx (fun j => real j ∨ j = 9) a' w' → K a' w') : wpOp Tryz.prog ops5 Q 9 K a w := by
    exact step_insert op9 (by simp [keysO]) (hp 0 (by decide)) hnr hI (by decide) (by decide) (by intro m c; simp [slO]) (fun e => by cases e) (fun e => by cases e) hK
theorem keep10 {w0 : World} {bx : Value} {lx qx : Nat} (hl : ∃ v, w0.heap[lx]? = some (.cells #[v] 321)) (hq : ∃ v, w0.heap[qx]? = some (.cells #[v] 321)) {real : Nat → Prop} {a : Act} {w : World} (hI : InvO w0 bx lx qx real a w) (hnr : ¬ real 10) (hcl : ∀ j, real j → ∀ p ∈ preds5 j, real p) (hp : ∀ j ∈ preds5 10, real j) {Q : Exit → Act → World → Prop} {K : Act → World → Prop} (hK : ∀ a' w', InvO w0 bx lx qx (fun j => real j ∨ j = 10) a' w' → K a' w') : wpOp Tryz.prog ops5 Q 10 K a w := by
    exact step_move op10 (slot_at hI.2.2.choose_spec.choose_spec.1 (x := (none, 5, fnS bx)) (by simp [slO]) (by intro j hj; cases hj)) (inv_put hI (by decide) (by decide) (by decide) (by decide) (by intro m c _; simp [slO, fnS, fnP])) hK
theorem keep11 {w0 : World} {bx : Value} {lx qx : Nat} (hl : ∃ v, w0.heap[lx]? = some (.cells #[v] 321)) (hq : ∃ v, w0.heap[qx]? = some (.cells #[v] 321)) {real : Nat → Prop} {a : Act} {w : World} (hI : InvO w0 bx lx qx real a w) (hnr : ¬ real 11) (hcl : ∀ j, real j → ∀ p ∈ preds5 j, real p) (hp : ∀ j ∈ preds5 11, real j) {Q : Exit → Act → World → Prop} {K : Act → World → Prop} (hK : ∀ a' w', InvO w0 bx lx qx (fun j => real j ∨ j = 11) a' w' → K a' w') : wpOp Tryz.prog ops5 Q 11 K a w := by
    obtain ⟨ts, ho⟩ := op11
    have hr10 : real 10 := hp 10 (by decide)
    obtain ⟨g1, g2, m, c, g3, g4⟩ := hI
    exact step_call ho (slot_at g3 (x := (some 10, 30, fnS bx)) (by simp [slO]) (by rintro j ⟨⟩; exact hr10)) ⟨by simp [Act.put, g1], g2, m, c, g3.put (by rw [g1]; decide) (by simp [slO, fnS, fnP]), (g4.alloc _).more (by decide) (by decide) (by decide)⟩ hK
theorem keep12 {w0 : World} {bx : Value} {lx qx : Nat} (hl : ∃ v, w0.heap[lx]? = some (.cells #[v] 321)) (hq : ∃ v, w0.heap[qx]? = some (.cells #[v] 321)) {real : Nat → Prop} {a : Act} {w : World} (hI : InvO w0 bx lx qx real a w) (hnr : ¬ real 12) (hcl : ∀ j, real j → ∀ p ∈ preds5 j, real p) (hp : ∀ j ∈ preds5 12, real j) {Q : Exit → Act → World → Prop} {K : Act → World → Prop} (hK : ∀ a' w', InvO w0 bx lx qx (fun j => real j ∨ j = 12) a' w' → K a' w') : wpOp Tryz.prog ops5 Q 12 K a w := by
    exact step_insert op12 (by simp [keysO]) (hp 0 (by decide)) hnr hI (by decide) (by decide) (by intro m c; simp [slO]) (fun e => by cases e) (fun e => by cases e) hK
theorem keep13 {w0 : World} {bx : Value} {lx qx : Nat} (hl : ∃ v, w0.heap[lx]? = some (.cells #[v] 321)) (hq : ∃ v, w0.heap[qx]? = some (.cells #[v] 321)) {real : Nat → Prop} {a : Act} {w : World} (hI : InvO w0 bx lx qx real a w) (hnr : ¬ real 13) (hcl : ∀ j, real j → ∀ p ∈ preds5 j, real p) (hp : ∀ j ∈ preds5 13, real j) {Q : Exit → Act → World → Prop} {K : Act → World → Prop} (hK : ∀ a' w', InvO w0 bx lx qx (fun j => real j ∨ j = 13) a' w' → K a' w') : wpOp Tryz.prog ops5 Q 13 K a w := by
    exact step_move op13 (slot_at hI.2.2.choose_spec.choose_spec.1 (x := (none, 5, fnS bx)) (by simp [slO]) (by intro j hj; cases hj)) (inv_put hI (by decide) (by decide) (by decide) (by decide) (by intro m c _; simp [slO, fnS, fnP])) hK
theorem keep14 {w0 : World} {bx : Value} {lx qx : Nat} (hl : ∃ v, w0.heap[lx]? = some (.cells #[v] 321)) (hq : ∃ v, w0.heap[qx]? = some (.cells #[v] 321)) {real : Nat → Prop} {a : Act} {w : World} (hI : InvO w0 bx lx qx real a w) (hnr : ¬ real 14) (hcl : ∀ j, real j → ∀ p ∈ preds5 j, real p) (hp : ∀ j ∈ preds5 14, real j) {Q : Exit → Act → World → Prop} {K : Act → World → Prop} (hK : ∀ a' w', InvO w0 bx lx qx (fun j => real j ∨ j = 14) a' w' → K a' w') : wpOp Tryz.prog ops5 Q 14 K a w := by
    obtain ⟨ts, ho⟩ := op14
    have hr13 : real 13 := hp 13 (by decide)
    obtain ⟨g1, g2, m, c, g3, g4⟩ := hI
    exact step_call ho (slot_at g3 (x := (some 13, 32, fnS bx)) (by simp [slO]) (by rintro j ⟨⟩; exact hr13)) ⟨by simp [Act.put, g1], g2, m, c, g3.put (by rw [g1]; decide) (by simp [slO, fnS, fnP]), (g4.alloc _).more (by decide) (by decide) (by decide)⟩ hK
theorem keep15 {w0 : World} {bx : Value} {lx qx : Nat} (hl : ∃ v, w0.heap[lx]? = some (.cells #[v] 321)) (hq : ∃ v, w0.heap[qx]? = some (.cells #[v] 321)) {real : Nat → Prop} {a : Act} {w : World} (hI : InvO w0 bx lx qx real a w) (hnr : ¬ real 15) (hcl : ∀ j, real j → ∀ p ∈ preds5 j, real p) (hp : ∀ j ∈ preds5 15, real j) {Q : Exit → Act → World → Prop} {K : Act → World → Prop} (hK : ∀ a' w', InvO w0 bx lx qx (fun j => real j ∨ j = 15) a' w' → K a' w') : wpOp Tryz.prog ops5 Q 15 K a w := by
    exact step_insert op15 (by simp [keysO]) (hp 0 (by decide)) hnr hI (by decide) (by decide) (by intro m c; simp [slO]) (fun e => by cases e) (fun e => by cases e) hK
theorem keep16 {w0 : World} {bx : Value} {lx qx : Nat} (hl : ∃ v, w0.heap[lx]? = some (.cells #[v] 321)) (hq : ∃ v, w0.heap[qx]? = some (.cells #[v] 321)) {real : Nat → Prop} {a : Act} {w : World} (hI : InvO w0 bx lx qx real a w) (hnr : ¬ real 16) (hcl : ∀ j, real j → ∀ p ∈ preds5 j, real p) (hp : ∀ j ∈ preds5 16, real j) {Q : Exit → Act → World → Prop} {K : Act → World → Prop} (hK : ∀ a' w', InvO w0 bx lx qx (fun j => real j ∨ j = 16) a' w' → K a' w') : wpOp Tryz.prog ops5 Q 16 K a w := by
    exact step_move op16 (slot_at hI.2.2.choose_spec.choose_spec.1 (x := (none, 5, fnS bx)) (by simp [slO]) (by intro j hj; cases hj)) (inv_put hI (by decide) (by decide) (by decide) (by decide) (by intro m c _; simp [slO, fnS, fnP])) hK
theorem keep17 {w0 : World} {bx : Value} {lx qx : Nat} (hl : ∃ v, w0.heap[lx]? = some (.cells #[v] 321)) (hq : ∃ v, w0.heap[qx]? = some (.cells #[v] 321)) {real : Nat → Prop} {a : Act} {w : World} (hI : InvO w0 bx lx qx real a w) (hnr : ¬ real 17) (hcl : ∀ j, real j → ∀ p ∈ preds5 j, real p) (hp : ∀ j ∈ preds5 17, real j) {Q : Exit → Act → World → Prop} {K : Act → World → Prop} (hK : ∀ a' w', InvO w0 bx lx qx (fun j => real j ∨ j = 17) a' w' → K a' w') : wpOp Tryz.prog ops5 Q 17 K a w := by
    obtain ⟨ts, ho⟩ := op17
    have hr16 : real 16 := hp 16 (by decide)
    obtain ⟨g1, g2, m, c, g3, g4⟩ := hI
    exact step_call ho (slot_at g3 (x := (some 16, 34, fnS bx)) (by simp [slO]) (by rintro j ⟨⟩; exact hr16)) ⟨by simp [Act.put, g1], g2, m, c, g3.put (by rw [g1]; decide) (by simp [slO, fnS, fnP]), (g4.alloc _).more (by decide) (by decide) (by decide)⟩ hK
theorem keep18 {w0 : World} {bx : Value} {lx qx : Nat} (hl : ∃ v, w0.heap[lx]? = some (.cells #[v] 321)) (hq : ∃ v, w0.heap[qx]? = some (.cells #[v] 321)) {real : Nat → Prop} {a : Act} {w : World} (hI : InvO w0 bx lx qx real a w) (hnr : ¬ real 18) (hcl : ∀ j, real j → ∀ p ∈ preds5 j, real p) (hp : ∀ j ∈ preds5 18, real j) {Q : Exit → Act → World → Prop} {K : Act → World → Prop} (hK : ∀ a' w', InvO w0 bx lx qx (fun j => real j ∨ j = 18) a' w' → K a' w') : wpOp Tryz.prog ops5 Q 18 K a w := by
    exact step_insert op18 (by simp [keysO]) (hp 0 (by decide)) hnr hI (by decide) (by decide) (by intro m c; simp [slO]) (fun e => by cases e) (fun e => by cases e) hK
theorem keep19 {w0 : World} {bx : Value} {lx qx : Nat} (hl : ∃ v, w0.heap[lx]? = some (.cells #[v] 321)) (hq : ∃ v, w0.heap[qx]? = some (.cells #[v] 321)) {real : Nat → Prop} {a : Act} {w : World} (hI : InvO w0 bx lx qx real a w) (hnr : ¬ real 19) (hcl : ∀ j, real j → ∀ p ∈ preds5 j, real p) (hp : ∀ j ∈ preds5 19, real j) {Q : Exit → Act → World → Prop} {K : Act → World → Prop} (hK : ∀ a' w', InvO w0 bx lx qx (fun j => real j ∨ j = 19) a' w' → K a' w') : wpOp Tryz.prog ops5 Q 19 K a w := by
    exact step_move op19 (slot_at hI.2.2.choose_spec.choose_spec.1 (x := (none, 5, fnS bx)) (by simp [slO]) (by intro j hj; cases hj)) (inv_put hI (by decide) (by decide) (by decide) (by decide) (by intro m c _; simp [slO, fnS, fnP])) hK
theorem keep20 {w0 : World} {bx : Value} {lx qx : Nat} (hl : ∃ v, w0.heap[lx]? = some (.cells #[v] 321)) (hq : ∃ v, w0.heap[qx]? = some (.cells #[v] 321)) {real : Nat → Prop} {a : Act} {w : World} (hI : InvO w0 bx lx qx real a w) (hnr : ¬ real 20) (hcl : ∀ j, real j → ∀ p ∈ preds5 j, real p) (hp : ∀ j ∈ preds5 20, real j) {Q : Exit → Act → World → Prop} {K : Act → World → Prop} (hK : ∀ a' w', InvO w0 bx lx qx (fun j => real j ∨ j = 20) a' w' → K a' w') : wpOp Tryz.prog ops5 Q 20 K a w := by
    obtain ⟨ts, ho⟩ := op20
    have hr19 : real 19 := hp 19 (by decide)
    obtain ⟨g1, g2, m, c, g3, g4⟩ := hI
    exact step_call ho (slot_at g3 (x := (some 19, 36, fnS bx)) (by simp [slO]) (by rintro j ⟨⟩; exact hr19)) ⟨by simp [Act.put, g1], g2, m, c, g3.put (by rw [g1]; decide) (by simp [slO, fnS, fnP]), (g4.alloc _).more (by decide) (by decide) (by decide)⟩ hK
theorem keep21 {w0 : World} {bx : Value} {lx qx : Nat} (hl : ∃ v, w0.heap[lx]? = some (.cells #[v] 321)) (hq : ∃ v, w0.heap[qx]? = some (.cells #[v] 321)) {real : Nat → Prop} {a : Act} {w : World} (hI : InvO w0 bx lx qx real a w) (hnr : ¬ real 21) (hcl : ∀ j, real j → ∀ p ∈ preds5 j, real p) (hp : ∀ j ∈ preds5 21, real j) {Q : Exit → Act → World → Prop} {K : Act → World → Prop} (hK : ∀ a' w', InvO w0 bx lx qx (fun j => real j ∨ j = 21) a' w' → K a' w') : wpOp Tryz.prog ops5 Q 21 K a w := by
    exact step_insert op21 (by simp [keysO]) (hp 0 (by decide)) hnr hI (by decide) (by decide) (by intro m c; simp [slO]) (fun e => by cases e) (fun e => by cases e) hK
theorem keep22 {w0 : World} {bx : Value} {lx qx : Nat} (hl : ∃ v, w0.heap[lx]? = some (.cells #[v] 321)) (hq : ∃ v, w0.heap[qx]? = some (.cells #[v] 321)) {real : Nat → Prop} {a : Act} {w : World} (hI : InvO w0 bx lx qx real a w) (hnr : ¬ real 22) (hcl : ∀ j, real j → ∀ p ∈ preds5 j, real p) (hp : ∀ j ∈ preds5 22, real j) {Q : Exit → Act → World → Prop} {K : Act → World → Prop} (hK : ∀ a' w', InvO w0 bx lx qx (fun j => real j ∨ j = 22) a' w' → K a' w') : wpOp Tryz.prog ops5 Q 22 K a w := by
    exact step_move op22 rfl (inv_put hI (by decide) (by decide) (by decide) (by decide) (by intro m c _; simp [slO, fnS, fnP])) hK
theorem keep23 {w0 : World} {bx : Value} {lx qx : Nat} (hl : ∃ v, w0.heap[lx]? = some (.cells #[v] 321)) (hq : ∃ v, w0.heap[qx]? = some (.cells #[v] 321)) {real : Nat → Prop} {a : Act} {w : World} (hI : InvO w0 bx lx qx real a w) (hnr : ¬ real 23) (hcl : ∀ j, real j → ∀ p ∈ preds5 j, real p) (hp : ∀ j ∈ preds5 23, real j) {Q : Exit → Act → World → Prop} {K : Act → World → Prop} (hK : ∀ a' w', InvO w0 bx lx qx (fun j => real j ∨ j = 23) a' w' → K a' w') : wpOp Tryz.prog ops5 Q 23 K a w := by
    exact step_insert op23 (by simp [keysO]) (hp 0 (by decide)) hnr hI (by decide) (by decide) (by intro m c; simp [slO]) (fun e => by cases e) (fun e => by cases e) hK
theorem keep24 {w0 : World} {bx : Value} {lx qx : Nat} (hl : ∃ v, w0.heap[lx]? = some (.cells #[v] 321)) (hq : ∃ v, w0.heap[qx]? = some (.cells #[v] 321)) {real : Nat → Prop} {a : Act} {w : World} (hI : InvO w0 bx lx qx real a w) (hnr : ¬ real 24) (hcl : ∀ j, real j → ∀ p ∈ preds5 j, real p) (hp : ∀ j ∈ preds5 24, real j) {Q : Exit → Act → World → Prop} {K : Act → World → Prop} (hK : ∀ a' w', InvO w0 bx lx qx (fun j => real j ∨ j = 24) a' w' → K a' w') : wpOp Tryz.prog ops5 Q 24 K a w := by
    obtain ⟨vv, hw0⟩ := hq
    have hcell : w.cell? ⟨qx, 0, none⟩ = some vv := by
      have := hI.2.2.choose_spec.choose_spec.2.low.some hw0
      simp [World.cell?, this]
    have hs : a.eval (.tmp 8) = .pointer (some ⟨qx, 0, none⟩) := slot_at hI.2.2.choose_spec.choose_spec.1 (x := (none, 8, .pointer (some ⟨qx, 0, none⟩))) (by simp [slO]) (by intro j hj; cases hj)
    refine wpOp_value op24 (v := vv) (w' := w) (fun o hop => ?_) (hK _ _ (inv_put hI (by decide) (by decide) (by decide) (by decide) (by intro m c _; simp [slO, fnS, fnP])))
    simp only [execOp, hop, hs]
    go_simp
theorem keep25 {w0 : World} {bx : Value} {lx qx : Nat} (hl : ∃ v, w0.heap[lx]? = some (.cells #[v] 321)) (hq : ∃ v, w0.heap[qx]? = some (.cells #[v] 321)) {real : Nat → Prop} {a : Act} {w : World} (hI : InvO w0 bx lx qx real a w) (hnr : ¬ real 25) (hcl : ∀ j, real j → ∀ p ∈ preds5 j, real p) (hp : ∀ j ∈ preds5 25, real j) {Q : Exit → Act → World → Prop} {K : Act → World → Prop} (hK : ∀ a' w', InvO w0 bx lx qx (fun j => real j ∨ j = 25) a' w' → K a' w') : wpOp Tryz.prog ops5 Q 25 K a w := by
    exact step_insert op25 (by simp [keysO]) (hp 0 (by decide)) hnr hI (by decide) (by decide) (by intro m c; simp [slO]) (fun e => by cases e) (fun e => by cases e) hK
theorem keep26 {w0 : World} {bx : Value} {lx qx : Nat} (hl : ∃ v, w0.heap[lx]? = some (.cells #[v] 321)) (hq : ∃ v, w0.heap[qx]? = some (.cells #[v] 321)) {real : Nat → Prop} {a : Act} {w : World} (hI : InvO w0 bx lx qx real a w) (hnr : ¬ real 26) (hcl : ∀ j, real j → ∀ p ∈ preds5 j, real p) (hp : ∀ j ∈ preds5 26, real j) {Q : Exit → Act → World → Prop} {K : Act → World → Prop} (hK : ∀ a' w', InvO w0 bx lx qx (fun j => real j ∨ j = 26) a' w' → K a' w') : wpOp Tryz.prog ops5 Q 26 K a w := by
    exact step_move op26 (slot_at hI.2.2.choose_spec.choose_spec.1 (x := (none, 5, fnS bx)) (by simp [slO]) (by intro j hj; cases hj)) (inv_put hI (by decide) (by decide) (by decide) (by decide) (by intro m c _; simp [slO, fnS, fnP])) hK
theorem keep27 {w0 : World} {bx : Value} {lx qx : Nat} (hl : ∃ v, w0.heap[lx]? = some (.cells #[v] 321)) (hq : ∃ v, w0.heap[qx]? = some (.cells #[v] 321)) {real : Nat → Prop} {a : Act} {w : World} (hI : InvO w0 bx lx qx real a w) (hnr : ¬ real 27) (hcl : ∀ j, real j → ∀ p ∈ preds5 j, real p) (hp : ∀ j ∈ preds5 27, real j) {Q : Exit → Act → World → Prop} {K : Act → World → Prop} (hK : ∀ a' w', InvO w0 bx lx qx (fun j => real j ∨ j = 27) a' w' → K a' w') : wpOp Tryz.prog ops5 Q 27 K a w := by
    obtain ⟨ts, ho⟩ := op27
    have hr26 : real 26 := hp 26 (by decide)
    obtain ⟨g1, g2, m, c, g3, g4⟩ := hI
    exact step_call ho (slot_at g3 (x := (some 26, 40, fnS bx)) (by simp [slO]) (by rintro j ⟨⟩; exact hr26)) ⟨by simp [Act.put, g1], g2, m, c, g3.put (by rw [g1]; decide) (by simp [slO, fnS, fnP]), (g4.alloc _).more (by decide) (by decide) (by decide)⟩ hK
theorem keep28 {w0 : World} {bx : Value} {lx qx : Nat} (hl : ∃ v, w0.heap[lx]? = some (.cells #[v] 321)) (hq : ∃ v, w0.heap[qx]? = some (.cells #[v] 321)) {real : Nat → Prop} {a : Act} {w : World} (hI : InvO w0 bx lx qx real a w) (hnr : ¬ real 28) (hcl : ∀ j, real j → ∀ p ∈ preds5 j, real p) (hp : ∀ j ∈ preds5 28, real j) {Q : Exit → Act → World → Prop} {K : Act → World → Prop} (hK : ∀ a' w', InvO w0 bx lx qx (fun j => real j ∨ j = 28) a' w' → K a' w') : wpOp Tryz.prog ops5 Q 28 K a w := by
    exact step_insert op28 (by simp [keysO]) (hp 0 (by decide)) hnr hI (by decide) (by decide) (by intro m c; simp [slO]) (fun e => by cases e) (fun e => by cases e) hK
theorem keep29 {w0 : World} {bx : Value} {lx qx : Nat} (hl : ∃ v, w0.heap[lx]? = some (.cells #[v] 321)) (hq : ∃ v, w0.heap[qx]? = some (.cells #[v] 321)) {real : Nat → Prop} {a : Act} {w : World} (hI : InvO w0 bx lx qx real a w) (hnr : ¬ real 29) (hcl : ∀ j, real j → ∀ p ∈ preds5 j, real p) (hp : ∀ j ∈ preds5 29, real j) {Q : Exit → Act → World → Prop} {K : Act → World → Prop} (hK : ∀ a' w', InvO w0 bx lx qx (fun j => real j ∨ j = 29) a' w' → K a' w') : wpOp Tryz.prog ops5 Q 29 K a w := by
    obtain ⟨vv, hw0⟩ := hl
    have hcell : w.cell? ⟨lx, 0, none⟩ = some vv := by
      have := hI.2.2.choose_spec.choose_spec.2.low.some hw0
      simp [World.cell?, this]
    have hs : a.eval (.tmp 6) = .pointer (some ⟨lx, 0, none⟩) := slot_at hI.2.2.choose_spec.choose_spec.1 (x := (none, 6, .pointer (some ⟨lx, 0, none⟩))) (by simp [slO]) (by intro j hj; cases hj)
    refine wpOp_value op29 (v := vv) (w' := w) (fun o hop => ?_) (hK _ _ (inv_put hI (by decide) (by decide) (by decide) (by decide) (by intro m c _; simp [slO, fnS, fnP])))
    simp only [execOp, hop, hs]
    go_simp
theorem keep30 {w0 : World} {bx : Value} {lx qx : Nat} (hl : ∃ v, w0.heap[lx]? = some (.cells #[v] 321)) (hq : ∃ v, w0.heap[qx]? = some (.cells #[v] 321)) {real : Nat → Prop} {a : Act} {w : World} (hI : InvO w0 bx lx qx real a w) (hnr : ¬ real 30) (hcl : ∀ j, real j → ∀ p ∈ preds5 j, real p) (hp : ∀ j ∈ preds5 30, real j) {Q : Exit → Act → World → Prop} {K : Act → World → Prop} (hK : ∀ a' w', InvO w0 bx lx qx (fun j => real j ∨ j = 30) a' w' → K a' w') : wpOp Tryz.prog ops5 Q 30 K a w := by
    exact step_insert op30 (by simp [keysO]) (hp 0 (by decide)) hnr hI (by decide) (by decide) (by intro m c; simp [slO]) (fun e => by cases e) (fun e => by cases e) hK
theorem keep31 {w0 : World} {bx : Value} {lx qx : Nat} (hl : ∃ v, w0.heap[lx]? = some (.cells #[v] 321)) (hq : ∃ v, w0.heap[qx]? = some (.cells #[v] 321)) {real : Nat → Prop} {a : Act} {w : World} (hI : InvO w0 bx lx qx real a w) (hnr : ¬ real 31) (hcl : ∀ j, real j → ∀ p ∈ preds5 j, real p) (hp : ∀ j ∈ preds5 31, real j) {Q : Exit → Act → World → Prop} {K : Act → World → Prop} (hK : ∀ a' w', InvO w0 bx lx qx (fun j => real j ∨ j = 31) a' w' → K a' w') : wpOp Tryz.prog ops5 Q 31 K a w := by
    obtain ⟨f, x, y, ho⟩ := op31
    exact wpOp_value ho (fun o hop => by simp only [execOp, hop]; rfl) (hK _ _ (inv_put hI (by decide) (by decide) (by decide) (by decide) (by intro m c _; simp [slO, fnS, fnP])))
theorem keep32 {w0 : World} {bx : Value} {lx qx : Nat} (hl : ∃ v, w0.heap[lx]? = some (.cells #[v] 321)) (hq : ∃ v, w0.heap[qx]? = some (.cells #[v] 321)) {real : Nat → Prop} {a : Act} {w : World} (hI : InvO w0 bx lx qx real a w) (hnr : ¬ real 32) (hcl : ∀ j, real j → ∀ p ∈ preds5 j, real p) (hp : ∀ j ∈ preds5 32, real j) {Q : Exit → Act → World → Prop} {K : Act → World → Prop} (hK : ∀ a' w', InvO w0 bx lx qx (fun j => real j ∨ j = 32) a' w' → K a' w') : wpOp Tryz.prog ops5 Q 32 K a w := by
    exact step_insert op32 (by simp [keysO]) (hp 0 (by decide)) hnr hI (by decide) (by decide) (by intro m c; simp [slO]) (fun e => by cases e) (fun e => by cases e) hK
theorem keep33 {w0 : World} {bx : Value} {lx qx : Nat} (hl : ∃ v, w0.heap[lx]? = some (.cells #[v] 321)) (hq : ∃ v, w0.heap[qx]? = some (.cells #[v] 321)) {real : Nat → Prop} {a : Act} {w : World} (hI : InvO w0 bx lx qx real a w) (hnr : ¬ real 33) (hcl : ∀ j, real j → ∀ p ∈ preds5 j, real p) (hp : ∀ j ∈ preds5 33, real j) {Q : Exit → Act → World → Prop} {K : Act → World → Prop} (hK : ∀ a' w', InvO w0 bx lx qx (fun j => real j ∨ j = 33) a' w' → K a' w') : wpOp Tryz.prog ops5 Q 33 K a w := by
    obtain ⟨f, x, y, ho⟩ := op33
    exact wpOp_value ho (fun o hop => by simp only [execOp, hop]; rfl) (hK _ _ (inv_put hI (by decide) (by decide) (by decide) (by decide) (by intro m c _; simp [slO, fnS, fnP])))
theorem keep34 {w0 : World} {bx : Value} {lx qx : Nat} (hl : ∃ v, w0.heap[lx]? = some (.cells #[v] 321)) (hq : ∃ v, w0.heap[qx]? = some (.cells #[v] 321)) {real : Nat → Prop} {a : Act} {w : World} (hI : InvO w0 bx lx qx real a w) (hnr : ¬ real 34) (hcl : ∀ j, real j → ∀ p ∈ preds5 j, real p) (hp : ∀ j ∈ preds5 34, real j) {Q : Exit → Act → World → Prop} {K : Act → World → Prop} (hK : ∀ a' w', InvO w0 bx lx qx (fun j => real j ∨ j = 34) a' w' → K a' w') : wpOp Tryz.prog ops5 Q 34 K a w := by
    exact step_insert op34 (by simp [keysO]) (hp 0 (by decide)) hnr hI (by decide) (by decide) (by intro m c; simp [slO]) (fun e => by cases e) (fun e => by cases e) hK
theorem keep35 {w0 : World} {bx : Value} {lx qx : Nat} (hl : ∃ v, w0.heap[lx]? = some (.cells #[v] 321)) (hq : ∃ v, w0.heap[qx]? = some (.cells #[v] 321)) {real : Nat → Prop} {a : Act} {w : World} (hI : InvO w0 bx lx qx real a w) (hnr : ¬ real 35) (hcl : ∀ j, real j → ∀ p ∈ preds5 j, real p) (hp : ∀ j ∈ preds5 35, real j) {Q : Exit → Act → World → Prop} {K : Act → World → Prop} (hK : ∀ a' w', InvO w0 bx lx qx (fun j => real j ∨ j = 35) a' w' → K a' w') : wpOp Tryz.prog ops5 Q 35 K a w := by
    obtain ⟨f, x, y, ho⟩ := op35
    exact wpOp_value ho (fun o hop => by simp only [execOp, hop]; rfl) (hK _ _ (inv_put hI (by decide) (by decide) (by decide) (by decide) (by intro m c _; simp [slO, fnS, fnP])))
theorem keep36 {w0 : World} {bx : Value} {lx qx : Nat} (hl : ∃ v, w0.heap[lx]? = some (.cells #[v] 321)) (hq : ∃ v, w0.heap[qx]? = some (.cells #[v] 321)) {real : Nat → Prop} {a : Act} {w : World} (hI : InvO w0 bx lx qx real a w) (hnr : ¬ real 36) (hcl : ∀ j, real j → ∀ p ∈ preds5 j, real p) (hp : ∀ j ∈ preds5 36, real j) {Q : Exit → Act → World → Prop} {K : Act → World → Prop} (hK : ∀ a' w', InvO w0 bx lx qx (fun j => real j ∨ j = 36) a' w' → K a' w') : wpOp Tryz.prog ops5 Q 36 K a w := by
    exact step_insert op36 (by simp [keysO]) (hp 0 (by decide)) hnr hI (by decide) (by decide) (by intro m c; simp [slO]) (fun e => by cases e) (fun e => by cases e) hK
theorem keep37 {w0 : World} {bx : Value} {lx qx : Nat} (hl : ∃ v, w0.heap[lx]? = some (.cells #[v] 321)) (hq : ∃ v, w0.heap[qx]? = some (.cells #[v] 321)) {real : Nat → Prop} {a : Act} {w : World} (hI : InvO w0 bx lx qx real a w) (hnr : ¬ real 37) (hcl : ∀ j, real j → ∀ p ∈ preds5 j, real p) (hp : ∀ j ∈ preds5 37, real j) {Q : Exit → Act → World → Prop} {K : Act → World → Prop} (hK : ∀ a' w', InvO w0 bx lx qx (fun j => real j ∨ j = 37) a' w' → K a' w') : wpOp Tryz.prog ops5 Q 37 K a w := by
    obtain ⟨f, x, y, ho⟩ := op37
    exact wpOp_value ho (fun o hop => by simp only [execOp, hop]; rfl) (hK _ _ (inv_put hI (by decide) (by decide) (by decide) (by decide) (by intro m c _; simp [slO, fnS, fnP])))
theorem keep38 {w0 : World} {bx : Value} {lx qx : Nat} (hl : ∃ v, w0.heap[lx]? = some (.cells #[v] 321)) (hq : ∃ v, w0.heap[qx]? = some (.cells #[v] 321)) {real : Nat → Prop} {a : Act} {w : World} (hI : InvO w0 bx lx qx real a w) (hnr : ¬ real 38) (hcl : ∀ j, real j → ∀ p ∈ preds5 j, real p) (hp : ∀ j ∈ preds5 38, real j) {Q : Exit → Act → World → Prop} {K : Act → World → Prop} (hK : ∀ a' w', InvO w0 bx lx qx (fun j => real j ∨ j = 38) a' w' → K a' w') : wpOp Tryz.prog ops5 Q 38 K a w := by
    exact step_insert op38 (by simp [keysO]) (hp 0 (by decide)) hnr hI (by decide) (by decide) (by intro m c; simp [slO]) (fun e => by cases e) (fun e => by cases e) hK
theorem keep39 {w0 : World} {bx : Value} {lx qx : Nat} (hl : ∃ v, w0.heap[lx]? = some (.cells #[v] 321)) (hq : ∃ v, w0.heap[qx]? = some (.cells #[v] 321)) {real : Nat → Prop} {a : Act} {w : World} (hI : InvO w0 bx lx qx real a w) (hnr : ¬ real 39) (hcl : ∀ j, real j → ∀ p ∈ preds5 j, real p) (hp : ∀ j ∈ preds5 39, real j) {Q : Exit → Act → World → Prop} {K : Act → World → Prop} (hK : ∀ a' w', InvO w0 bx lx qx (fun j => real j ∨ j = 39) a' w' → K a' w') : wpOp Tryz.prog ops5 Q 39 K a w := by
    obtain ⟨f, x, y, ho⟩ := op39
    exact wpOp_value ho (fun o hop => by simp only [execOp, hop]; rfl) (hK _ _ (inv_put hI (by decide) (by decide) (by decide) (by decide) (by intro m c _; simp [slO, fnS, fnP])))
theorem keep40 {w0 : World} {bx : Value} {lx qx : Nat} (hl : ∃ v, w0.heap[lx]? = some (.cells #[v] 321)) (hq : ∃ v, w0.heap[qx]? = some (.cells #[v] 321)) {real : Nat → Prop} {a : Act} {w : World} (hI : InvO w0 bx lx qx real a w) (hnr : ¬ real 40) (hcl : ∀ j, real j → ∀ p ∈ preds5 j, real p) (hp : ∀ j ∈ preds5 40, real j) {Q : Exit → Act → World → Prop} {K : Act → World → Prop} (hK : ∀ a' w', InvO w0 bx lx qx (fun j => real j ∨ j = 40) a' w' → K a' w') : wpOp Tryz.prog ops5 Q 40 K a w := by
    exact step_insert op40 (by simp [keysO]) (hp 0 (by decide)) hnr hI (by decide) (by decide) (by intro m c; simp [slO]) (fun e => by cases e) (fun e => by cases e) hK
theorem keep41 {w0 : World} {bx : Value} {lx qx : Nat} (hl : ∃ v, w0.heap[lx]? = some (.cells #[v] 321)) (hq : ∃ v, w0.heap[qx]? = some (.cells #[v] 321)) {real : Nat → Prop} {a : Act} {w : World} (hI : InvO w0 bx lx qx real a w) (hnr : ¬ real 41) (hcl : ∀ j, real j → ∀ p ∈ preds5 j, real p) (hp : ∀ j ∈ preds5 41, real j) {Q : Exit → Act → World → Prop} {K : Act → World → Prop} (hK : ∀ a' w', InvO w0 bx lx qx (fun j => real j ∨ j = 41) a' w' → K a' w') : wpOp Tryz.prog ops5 Q 41 K a w := by
    have hr0 : real 0 := hp 0 (by decide)
    obtain ⟨g1, g2, m, c, g3, g4⟩ := hI
    exact step_move op41 (slot_at g3 (x := (some 0, 23, .map (some m))) (by simp [slO]) (by rintro j ⟨⟩; exact hr0)) ⟨by simp [Act.put, g1], g2, m, c, g3.put (by rw [g1]; decide) (by simp [slO, fnS, fnP]), g4.more (by decide) (by decide) (by decide)⟩ hK
theorem keep42 {w0 : World} {bx : Value} {lx qx : Nat} (hl : ∃ v, w0.heap[lx]? = some (.cells #[v] 321)) (hq : ∃ v, w0.heap[qx]? = some (.cells #[v] 321)) {real : Nat → Prop} {a : Act} {w : World} (hI : InvO w0 bx lx qx real a w) (hnr : ¬ real 42) (hcl : ∀ j, real j → ∀ p ∈ preds5 j, real p) (hp : ∀ j ∈ preds5 42, real j) {Q : Exit → Act → World → Prop} {K : Act → World → Prop} (hK : ∀ a' w', InvO w0 bx lx qx (fun j => real j ∨ j = 42) a' w' → K a' w') : wpOp Tryz.prog ops5 Q 42 K a w := by
    have hr41 : real 41 := hp 41 (by decide)
    obtain ⟨g1, g2, m, c, g3, g4⟩ := hI
    have hv := slot_at g3 (x := (some 41, 48, .map (some m))) (by simp [slO]) (by rintro j ⟨⟩; exact hr41)
    exact wpOp_value op42 (v := .map (some m)) (w' := w) (fun o hop => by simp only [execOp, hop]; exact congrArg (fun v => Result.ok (Next.value v) w) hv) (hK _ _ ⟨by simp [Act.put, g1], g2, m, c, g3.put (by rw [g1]; decide) (by simp [slO, fnS, fnP]), g4.more (by decide) (by decide) (by decide)⟩)
theorem keeps5 {w0 : World} {bx : Value} {lx qx : Nat} (hl : ∃ v, w0.heap[lx]? = some (.cells #[v] 321)) (hq : ∃ v, w0.heap[qx]? = some (.cells #[v] 321)) : Keeps Tryz.prog ops5 (InvO w0 bx lx qx) := by
  intro real i a w hI hi hnr hcl hp Q K hK
  rw [ops5_size] at hi
  have hcl : ∀ j, real j → ∀ p ∈ preds5 j, real p := fun j hj p hpj => by
    by_cases h : j < 43
    · exact hcl j hj p ((preds5_mem h).2 hpj)
    · have : preds5 j = [] := by
        unfold preds5
        rw [List.getD_eq_getElem?_getD, List.getElem?_eq_none (by show 43 ≤ j; omega)]
        rfl
      rw [this] at hpj; cases hpj
  have hp : ∀ j ∈ preds5 i, real j := fun j hj => hp j ((preds5_mem hi).2 hj)
  match i, hi, hnr, hp, hK with
  | 0, _, hnr, hp, hK => exact keep0 hl hq hI hnr hcl hp hK
  | 1, _, hnr, hp, hK => exact keep1 hl hq hI hnr hcl hp hK
  | 2, _, hnr, hp, hK => exact keep2 hl hq hI hnr hcl hp hK
  | 3, _, hnr, hp, hK => exact keep3 hl hq hI hnr hcl hp hK
  | 4, _, hnr, hp, hK => exact keep4 hl hq hI hnr hcl hp hK
  | 5, _, hnr, hp, hK => exact keep5 hl hq hI hnr hcl hp hK
  | 6, _, hnr, hp, hK => exact keep6 hl hq hI hnr hcl hp hK
  | 7, _, hnr, hp, hK => exact keep7 hl hq hI hnr hcl hp hK
  | 8, _, hnr, hp, hK => exact keep8 hl hq hI hnr hcl hp hK
  | 9, _, hnr, hp, hK => exact keep9 hl hq hI hnr hcl hp hK
  | 10, _, hnr, hp, hK => exact keep10 hl hq hI hnr hcl hp hK
  | 11, _, hnr, hp, hK => exact keep11 hl hq hI hnr hcl hp hK
  | 12, _, hnr, hp, hK => exact keep12 hl hq hI hnr hcl hp hK
  | 13, _, hnr, hp, hK => exact keep13 hl hq hI hnr hcl hp hK
  | 14, _, hnr, hp, hK => exact keep14 hl hq hI hnr hcl hp hK
  | 15, _, hnr, hp, hK => exact keep15 hl hq hI hnr hcl hp hK
  | 16, _, hnr, hp, hK => exact keep16 hl hq hI hnr hcl hp hK
  | 17, _, hnr, hp, hK => exact keep17 hl hq hI hnr hcl hp hK
  | 18, _, hnr, hp, hK => exact keep18 hl hq hI hnr hcl hp hK
  | 19, _, hnr, hp, hK => exact keep19 hl hq hI hnr hcl hp hK
  | 20, _, hnr, hp, hK => exact keep20 hl hq hI hnr hcl hp hK
  | 21, _, hnr, hp, hK => exact keep21 hl hq hI hnr hcl hp hK
  | 22, _, hnr, hp, hK => exact keep22 hl hq hI hnr hcl hp hK
  | 23, _, hnr, hp, hK => exact keep23 hl hq hI hnr hcl hp hK
  | 24, _, hnr, hp, hK => exact keep24 hl hq hI hnr hcl hp hK
  | 25, _, hnr, hp, hK => exact keep25 hl hq hI hnr hcl hp hK
  | 26, _, hnr, hp, hK => exact keep26 hl hq hI hnr hcl hp hK
  | 27, _, hnr, hp, hK => exact keep27 hl hq hI hnr hcl hp hK
  | 28, _, hnr, hp, hK => exact keep28 hl hq hI hnr hcl hp hK
  | 29, _, hnr, hp, hK => exact keep29 hl hq hI hnr hcl hp hK
  | 30, _, hnr, hp, hK => exact keep30 hl hq hI hnr hcl hp hK
  | 31, _, hnr, hp, hK => exact keep31 hl hq hI hnr hcl hp hK
  | 32, _, hnr, hp, hK => exact keep32 hl hq hI hnr hcl hp hK
  | 33, _, hnr, hp, hK => exact keep33 hl hq hI hnr hcl hp hK
  | 34, _, hnr, hp, hK => exact keep34 hl hq hI hnr hcl hp hK
  | 35, _, hnr, hp, hK => exact keep35 hl hq hI hnr hcl hp hK
  | 36, _, hnr, hp, hK => exact keep36 hl hq hI hnr hcl hp hK
  | 37, _, hnr, hp, hK => exact keep37 hl hq hI hnr hcl hp hK
  | 38, _, hnr, hp, hK => exact keep38 hl hq hI hnr hcl hp hK
  | 39, _, hnr, hp, hK => exact keep39 hl hq hI hnr hcl hp hK
  | 40, _, hnr, hp, hK => exact keep40 hl hq hI hnr hcl hp hK
  | 41, _, hnr, hp, hK => exact keep41 hl hq hI hnr hcl hp hK
  | 42, _, hnr, hp, hK => exact keep42 hl hq hI hnr hcl hp hK
  | n + 43, hi, _, _, _ => omega
end Go.Proofs.YtlfmgfgcaepmjaaGreat
