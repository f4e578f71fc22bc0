/- Operations that may trap are kept: for all kinds (whatever their number), the statement's call returns true, and its argument reads as before. No condition. -/
import Derived.Test.YtnjdegjpmbdboaaGreatRV
import Derived.ProofKit
import Derived.WideKeyArr2
import Derived.Deep.Frames
namespace Go.Proofs.YtnjdegjpmbdboaaGreat
open Go.ChangeShapes Go.WideShapes Go.ChangeAt Go.RowKit Go.WideMaps
set_option linter.unusedVariables false
theorem Tryz.own : ownKnob Tryz.prog.godebug = none := by kernel_rfl
theorem Tryz.laidOut : laidOutB Tryz.prog = true := by kernel_rfl
theorem Tryz.cells3 : Tryz.prog.cellsOf 3 = 1 := by kernel_rfl
section
variable {H : Type} {enc : TypeId × Value → H} {W : World}
/-- What a slice of numbers that came in is. -/
theorem came_in {a : Option Addr} {len cap : Nat} {d : DataW H} {p : List MemPlace} (h : DataW.Trod enc Tryz.prog W 0 (fun _ => true) true 22 (.slice a len cap) d p) :
    len ≤ 9223372036854775807 ∧ (∀ j, j < len → ∃ (g o : Nat) (z : Int), a = some ⟨g, o, .none⟩ ∧ W.cell? ⟨g, o + j, .none⟩ = some (.int .i64 z)) ∧ ∀ x ∈ p, ∀ b, x ≠ .map b := by
  obtain ⟨fu, hf⟩ := h
  rcases open_ints Tryz.underlying22 Tryz.underlying3 Tryz.cells3 hf with ⟨hcs, hx⟩ | ⟨a', len', cap', zs, hcs, _, hl, hm, hz, hx, hcell, hwz⟩
  · simp [Value.cells] at hcs
    obtain ⟨rfl, rfl, rfl⟩ := hcs
    simp only [Prod.mk.injEq] at hx
    obtain ⟨rfl, rfl⟩ := hx
    exact ⟨by omega, fun j hj => by omega, by simp⟩
  · simp [Value.cells] at hcs
    obtain ⟨rfl, rfl, rfl⟩ := hcs
    simp only [Prod.mk.injEq] at hx
    obtain ⟨rfl, rfl⟩ := hx
    simp only [if_true] at hz
    have hmax : maxLen = 9223372036854775807 := rfl
    refine ⟨by omega, fun j hj => ?_, fun x hx b e => ?_⟩
    · obtain ⟨g, o, spot⟩ := a'
      have hspot : spot = .none := by simpa [Addr.add] using World.cell?_spot (hcell 0 (by omega))
      subst hspot
      have e : (⟨g, o, .none⟩ : Addr).add j = ⟨g, o + j, .none⟩ := by
        by_cases h0 : j = 0
        · subst h0; simp [Addr.add]
        · simp [Addr.add, h0]
      exact ⟨g, o, zs.getD j 0, rfl, by rw [← e]; exact hcell j (by omega)⟩
    · obtain ⟨j, _, rfl⟩ := MemPlace.mem_row.1 hx
      cases e
end
set_option maxRecDepth 100000 in
set_option maxHeartbeats 1600000 in
theorem law_lifted (os : Os) (started : os.Started) (H : Type) (enc : TypeId × Value → H) :
    ReturnsInHanded {} Tryz.checked os 3 .any (Rows.simplifyTrapsSpec.pre6 enc Tryz.prog Tryz.f3 Rows.simplifyTrapsRow.domain false) (Rows.simplifyTrapsSpec.post enc Tryz.prog Tryz.f3 false true false false) := by
  refine returnsInHanded_of_change (C := Tryz.checked) Tryz.own started (by kernel_rfl) Tryz.func3
    (ChangeSpec.witness6 (enc := enc) (C := Tryz.checked) false ⟨#[], #[.slice none 0 0], []⟩ 8 (by kernel_rfl) (by kernel_rfl) (by kernel_rfl) (by kernel_rfl)) ?_
  intro W base args ds gs before hval0 hW hcnd _
  have hval : ∀ (j : Nat) t v, Tryz.f3.params[j]? = some t → args[j]? = some v → Value.okWide Tryz.prog W .any base t v := hval0
  have hW' := hW
  obtain ⟨p, q, hA0, hV, rfl, hfz, hnd⟩ := hW
  have hA : DataW.TrodAll enc Tryz.prog W 0 (fun _ => true) true Tryz.f3.params.toList args.toList ds p := hA0
  rw [Tryz.params3] at hA hval
  obtain ⟨v0, d0, rfl, rfl, h0⟩ := trodAll_one hA
  obtain ⟨rfl, rfl⟩ := trodVars_none hV
  obtain ⟨a0, la, ca, rfl⟩ := okWide_slice Tryz.underlying22 (hval 0 22 v0 rfl rfl)
  clear hA0 hval0
  simp only [List.append_nil] at hW'
  obtain ⟨hla, hin0, hm0⟩ := came_in h0
  have hlt : ∀ x ∈ p, x.block < W.heap.size := fun x hx => by simpa using hW'.lt x (by simpa using hx)
  refine (law_any W a0 la ca hla hin0).mono fun e W' ⟨he, hk⟩ => ?_
  subst he
  refine ⟨_, rfl, ?_⟩
  have A0 : DataW.Trod enc Tryz.prog W' 0 (fun x => decide (x < W.heap.size)) true 22 (.slice a0 la ca) d0 p :=
    WideElems.Trod_stays Tryz.laidOut (by kernel_rfl) (of_decide_eq_true (by kernel_rfl)) h0
      (fun x hx => hk.sameAt (hlt x hx) (fun f => f) (fun bb e => absurd e (hm0 x hx bb))) (fun x hx => by simpa using hlt x hx)
  have RES : DataW.Trod enc Tryz.prog W' W.heap.size (fun _ => false) false 4 (.bool true) (.lit (.bool true)) [] := ⟨1, by simp [DataW.trod, Value.cells, Tryz.underlying4]⟩
  exact ⟨_, _, _, [], p, [], hW', trodAll_mk1 RES, trodAll_mk1 A0, rfl, World.keptBut_mono (fun _ f => f.elim) hk, fun h => by cases h⟩
theorem simplifyTraps_holds : Rows.SimplifyTrapsSaid :=
  OpenClaim.holds_of_wide 3 Tryz.f3 rfl rfl rfl rfl rfl rfl rfl ⟨rfl, rfl, rfl, rfl, rfl⟩ rfl rfl rfl rfl rfl (by kernel_rfl) Tryz.func3 (by kernel_rfl)
    (of_decide_eq_true (by kernel_rfl)) (by unfold Func.isWrapper; first | (rw [if_pos (by decide +kernel)]; kernel_rfl) | (rw [if_neg (by decide +kernel)]; exact ⟨rfl, rfl⟩))
    (fun os started H enc _ => law_lifted os started H enc)
#print axioms simplifyTraps_holds
end Go.Proofs.YtnjdegjpmbdboaaGreat
