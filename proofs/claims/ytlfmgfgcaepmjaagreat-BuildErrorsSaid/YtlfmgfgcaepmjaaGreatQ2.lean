/- Compile returns the error of Check for sources that are not valid, and ErrCallee for valid ones with an external function: for every argument the statement's call returns true, and its argument reads as before. No condition. -/
import Derived.Test.YtlfmgfgcaepmjaaGreatQ1
import Derived.Test.YtlfmgfgcaepmjaaGreatR4
import Derived.ProofKit
import Derived.WideKeyArr2
import Derived.Deep.Frames
set_option linter.unusedSimpArgs false
set_option linter.unusedVariables false
set_option linter.unusedSectionVars false
set_option linter.unusedSimpArgs false
set_option linter.unusedVariables false
set_option linter.unusedSectionVars false
namespace Go.Proofs.YtlfmgfgcaepmjaaGreat
open Go.ChangeShapes Go.WideShapes Go.ChangeAt Go.RowKit Go.WideMaps
set_option linter.unusedVariables false
set_option maxRecDepth 100000
theorem Tryz.own : ownKnob Tryz.prog.godebug = none := by kernel_rfl
theorem Low.frame {w w' : World} (h : Low w.heap.size w w') (may : MemPlace → Prop) : w.keptBut w' may := by
  refine ⟨h.os, h.out, fun i hi => ?_⟩
  rw [h.block i hi]
  split <;> simp_all
theorem byte_wf {n : Int} (h : (Lit.int .u8 n).wf = true) : ∃ m : Nat, n = m := by
  simp only [Lit.wf, Bool.and_eq_true, decide_eq_true_eq] at h
  have h1 : IntKind.u8.min = 0 := by decide
  rw [h1] at h
  exact ⟨n.toNat, by omega⟩
section
variable {H : Type} {enc : TypeId × Value → H} {V : World}
theorem came_byte {v : Value} {d : DataW H} {p : List MemPlace} (h : DataW.Trod enc Tryz.prog V 0 (fun _ => true) true 5 v d p) (hv : ∃ n, v = .int .u8 n) : ∃ n : Nat, v = .int .u8 n ∧ p = [] := by
  obtain ⟨n, rfl⟩ := hv
  obtain ⟨fu, hf⟩ := h
  obtain ⟨m, e, hx, hw⟩ := DataW.trod_int Tryz.underlying5 hf
  simp [Value.cells] at e
  subst e
  simp only [Prod.mk.injEq] at hx
  obtain ⟨m, rfl⟩ := byte_wf hw
  exact ⟨m, rfl, hx.2⟩
end
set_option maxRecDepth 100000 in
set_option maxHeartbeats 1600000 in
theorem law_lifted (os : Os) (started : os.Started) (H : Type) (enc : TypeId × Value → H) :
    ReturnsInHanded {} Tryz.checked os 3 .any (Rows.buildErrorsSpec.pre6 enc Tryz.prog Tryz.f3 Rows.buildErrorsRow.domain false) (Rows.buildErrorsSpec.post enc Tryz.prog Tryz.f3 false true false false) := by
  refine returnsInHanded_of_change (C := Tryz.checked) Tryz.own started (by kernel_rfl) Tryz.func3
    (ChangeSpec.witness6 (enc := enc) (C := Tryz.checked) false ⟨#[], #[.int .u8 0], []⟩ 8 (by kernel_rfl) (by kernel_rfl) (by kernel_rfl) (by kernel_rfl)) ?_
  intro V base args ds gs before hval0 hW hcnd _
  have hval : ∀ (j : Nat) t v, Tryz.f3.params[j]? = some t → args[j]? = some v → Value.okWide Tryz.prog V .any base t v := hval0
  have hW' := hW
  obtain ⟨p, q, hA0, hV, rfl, hfz, hnd⟩ := hW
  have hA : DataW.TrodAll enc Tryz.prog V 0 (fun _ => true) true Tryz.f3.params.toList args.toList ds p := hA0
  rw [Tryz.params3] at hA hval
  obtain ⟨v0, d0, rfl, rfl, h0⟩ := trodAll_one hA
  obtain ⟨rfl, rfl⟩ := trodVars_none hV
  have hi0 := okWide_int Tryz.underlying5 (hval 0 5 v0 rfl rfl)
  obtain ⟨o, rfl, rfl⟩ := came_byte h0 hi0
  clear hA0 hval0
  simp only [List.append_nil] at hW'
  refine (law_any V o).mono fun e V' ⟨he, hlow⟩ => ?_
  have hk := hlow.frame (fun _ => False)
  subst he
  refine ⟨_, rfl, ?_⟩
  have A0 : DataW.Trod enc Tryz.prog V' 0 (fun x => decide (x < V.heap.size)) true 5 (.int .u8 o) d0 [] :=
    WideElems.Trod_stays Tryz.laidOut (by kernel_rfl) (of_decide_eq_true (by kernel_rfl)) h0 (fun x hx => by cases hx) (fun x hx => by cases hx)
  have RES : DataW.Trod enc Tryz.prog V' V.heap.size (fun _ => false) false 4 (.bool true) (.lit (.bool true)) [] := ⟨1, by simp [DataW.trod, Value.cells, Tryz.underlying4]⟩
  exact ⟨_, _, _, [], [], [], hW', trodAll_mk1 RES, trodAll_mk1 A0, rfl, World.keptBut_mono (fun _ f => f.elim) hk, fun h => by cases h⟩
theorem buildErrors_holds : Rows.BuildErrorsSaid :=
  OpenClaim.holds_of_wide 3 Tryz.f3 rfl rfl rfl rfl rfl rfl rfl ⟨rfl, rfl, rfl, rfl, rfl⟩ rfl rfl rfl rfl rfl (by kernel_rfl) Tryz.func3 closedT
    (of_decide_eq_true (by kernel_rfl)) (by unfold Func.isWrapper; first | (rw [if_pos (by decide +kernel)]; kernel_rfl) | (rw [if_neg (by decide +kernel)]; exact ⟨rfl, rfl⟩))
    (fun os started H enc _ => law_lifted os started H enc)
#print axioms buildErrors_holds
end Go.Proofs.YtlfmgfgcaepmjaaGreat
