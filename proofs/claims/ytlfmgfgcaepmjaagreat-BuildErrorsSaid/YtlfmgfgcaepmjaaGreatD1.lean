/- A region in any order, by what holds of whatever part of it has been done. -/
import Derived.Test.YtlfmgfgcaepmjaaGreatE5
import Derived.Orders
set_option linter.unusedSimpArgs false
set_option linter.unusedVariables false
set_option linter.unusedSectionVars false
set_option linter.unusedSimpArgs false
set_option linter.unusedVariables false
set_option linter.unusedSectionVars false
namespace Go.Proofs.YtlfmgfgcaepmjaaGreat
open Go.Eng
set_option linter.unusedVariables false
variable {P : Program} {ops : Array Oper} {Q : Exit → Act → World → Prop}
/-- What an operation makes of what holds. -/
def Keeps (P : Program) (ops : Array Oper) (I : (Nat → Prop) → Act → World → Prop) : Prop :=
  ∀ (real : Nat → Prop) (i : Nat) (a : Act) (w : World), I real a w → i < ops.size → ¬ real i → (∀ j, real j → ∀ p ∈ preds ops j, real p) → (∀ j ∈ preds ops i, real j) →
    ∀ (Q : Exit → Act → World → Prop) (K : Act → World → Prop), (∀ a' w', I (fun j => real j ∨ j = i) a' w' → K a' w') → wpOp P ops Q i K a w
theorem wpAny_inv {I : (Nat → Prop) → Act → World → Prop} (hlt : (List.range ops.size).all (fun j => (preds ops j).all fun i => Nat.blt i j) = true) (hk : Keeps P ops I) (hend : ∀ real a w, I real a w → (∀ j, j < ops.size → real j) → Q .normal a w) :
    ∀ (fuel : Nat) (listed : Array Bool) (a : Act) (w : World), listed.size = ops.size → (undone ops listed).length ≤ fuel → (∀ j, listed.getD j false = true → ∀ p ∈ preds ops j, listed.getD p false = true) →
      I (fun j => listed.getD j false = true) a w → wpAny P .any ops Q fuel listed a w := by
  letI : Sym := { val := fun _ => 0 }
  letI : Hooks := { hk := fun _ => none }
  intro fuel
  induction fuel with
  | zero =>
    intro listed a w hs hu hc hI
    have hall : ∀ j, j < ops.size → listed.getD j false = true := fun j hj => by
      cases hl : listed.getD j false with
      | true => rfl
      | false =>
        have : j ∈ undone ops listed := List.mem_filter.2 ⟨List.mem_range.2 hj, by rw [hl]; rfl⟩
        have h0 : undone ops listed = [] := List.length_eq_zero_iff.1 (by omega)
        rw [h0] at this; cases this
    refine ⟨?_, hend _ a w hI hall⟩
    cases hr : Region.ready .any ops listed with
    | nil => rfl
    | cons x xs =>
      obtain ⟨hnl, o, ho, _⟩ := mem_ready.1 (show x ∈ Region.ready .any ops listed by rw [hr]; exact List.mem_cons_self ..)
      have hx := hall x (Array.getElem?_eq_some_iff.1 ho).1
      have h2 : x < listed.size := by rw [hs]; exact (Array.getElem?_eq_some_iff.1 ho).1
      simp [h2] at hnl hx
      rw [hx] at hnl; cases hnl
  | succ fuel ih =>
    intro listed a w hs hu hc hI
    refine ⟨fun hnil => hend _ a w hI (ready_nil hlt hs hnil), fun i hi => ?_⟩
    obtain ⟨hnl, o, ho, hpre⟩ := mem_ready.1 hi
    have hisz : i < ops.size := (Array.getElem?_eq_some_iff.1 ho).1
    have hnr : listed.getD i false = false := by
      have h2 : i < listed.size := by omega
      simp [h2] at hnl ⊢; exact hnl
    have hp : ∀ j ∈ preds ops i, listed.getD j false = true := fun j hj => by
      obtain ⟨ed, h1, h2, rfl⟩ := (mem_preds ho).1 hj
      exact hpre ed h1 h2
    have hs' : (listed.setIfInBounds i true).size = ops.size := by rw [Array.size_setIfInBounds]; exact hs
    have hu' := undone_lt hs hisz hnr
    refine hk _ i a w hI hisz (by rw [hnr]; simp) hc hp Q _ (fun a' w' hI' => ?_)
    refine ih _ a' w' hs' (by omega) (fun j hj p hpj => ?_) ?_
    · rw [← set_iff hs hisz] at hj ⊢
      rcases hj with hj | rfl
      · exact .inl (hc j hj p hpj)
      · exact .inl (hp p hpj)
    · have : (fun j => (listed.setIfInBounds i true).getD j false = true) = (fun j => listed.getD j false = true ∨ j = i) := funext fun j => propext (set_iff hs hisz j).symm
      rw [this]
      exact hI'
/-- A region that draws its order. -/
theorem wp_region_inv {id : Nat} {a : Act} {w : World} {I : (Nat → Prop) → Act → World → Prop} (hm : P.follows .mixedOrders = true) (hlt : (List.range ops.size).all (fun j => (preds ops j).all fun i => Nat.blt i j) = true)
    (h0 : I (fun _ => False) a { w with drawn := w.drawn + 1 }) (hk : Keeps P ops I) (hend : ∀ real a w, I real a w → (∀ j, j < ops.size → real j) → Q .normal a w) : (Code.region id ops true).wp P Q a w := by
  refine wp_region_any hm (wpAny_inv hlt hk hend ops.size _ a _ (by simp) (by unfold undone; exact Nat.le_trans (List.length_filter_le _ _) (by simp)) ?_ ?_)
  · intro j hj
    by_cases hjs : j < ops.size <;> simp [hjs] at hj
  · have : (fun j => (Array.replicate ops.size false).getD j false = true) = (fun _ : Nat => False) := funext fun j => propext ⟨fun hj => by by_cases hjs : j < ops.size <;> simp [hjs] at hj, fun hj => hj.elim⟩
    rw [this]
    exact h0
end Go.Proofs.YtlfmgfgcaepmjaaGreat
