/- The law's own check: it is true. -/
import Derived.Test.YtlfmgfgcaepmjaaGreatB1
import Derived.Test.YtlfmgfgcaepmjaaGreatB2
import Derived.Test.YtlfmgfgcaepmjaaGreatB3
import Derived.Test.YtlfmgfgcaepmjaaGreatB6
import Derived.Test.YtlfmgfgcaepmjaaGreatB7
set_option linter.unusedSimpArgs false
set_option linter.unusedVariables false
set_option linter.unusedSectionVars false
namespace Go.Eng
set_option linter.unusedVariables false
set_option linter.unusedSectionVars false
theorem runF_only [Sym] [Hooks] {P : Program} [HooksOK P] (hm : P.follows .mixedOrders = true) {fuel : Nat} {f : FuncId} (h : runF P fuel f [] isTrue = true) (w : World) :
    Calls P f #[] w (fun e w' => e = .returned (.bool true) ∧ Only w w') := by
  unfold runF at h
  rw [funBF_eq] at h
  have hs : SRel (fun b => b < w.heap.size) (fun _ _ => none) ⟨.lf, 0, 0⟩ w := ⟨fun _ _ _ h => by (cases h), fun _ _ _ _ _ _ h => by (cases h), fun _ h => h⟩
  refine Calls.mono (callBody_spec (execF_ok (draw_ok hm) fuel) f _ _ _ _ h _ w #[] hs .nil).2 ?_
  rintro e w' (⟨v, st', ρ', v', rfl, h1, h2, h3, h4⟩ | ⟨_, _, _, _, _, hno, _⟩)
  · refine ⟨?_, Only.of_adv h4⟩
    cases h3 <;> first | (simp [isTrue] at h1; done) | skip
    rename_i b
    cases b
    · simp [isTrue] at h1
    · rfl
  · cases hno
end Go.Eng
namespace Go.Proofs.YtlfmgfgcaepmjaaGreat
open Go.RowKit Go.Eng
set_option linter.unusedVariables false
set_option linter.unusedSectionVars false
set_option maxRecDepth 100000
noncomputable def hkS (f : FuncId) : Option Hook :=
  match f with
  | 6 => some (hookMemo [compile0, compile1])
  | 9 => some (hookMemo [run0])
  | 12 => some (hookMemo [parse0, parse1, parse2, parse3])
  | f => hkG f
@[reducible] noncomputable def hk2 : Hooks := { hk := hkS }
theorem hk2_ok : @HooksOK s0 hk2 Tryz.prog := by
  letI := s0
  letI := hk2
  refine ⟨fun f h hf => ?_⟩
  have hf : hkS f = some h := hf
  unfold hkS at hf
  split at hf
  · cases hf
    refine hookMemo_ok (kk := hk4) follows callable6 hk4_ok (fuel := 100000) fun M hM => ?_
    simp only [List.mem_cons, List.not_mem_nil, or_false] at hM
    rcases hM with rfl | rfl
    · exact compile0_run
    · exact compile1_run
  · cases hf
    refine hookMemo_ok (kk := hk) follows callable9 (hk_ok s0) (fuel := 100000) fun M hM => ?_
    simp only [List.mem_cons, List.not_mem_nil, or_false] at hM
    rw [hM]
    exact run0_run
  · cases hf
    refine hookMemo_ok (kk := hk) follows callable12 (hk_ok s0) (fuel := 100000) fun M hM => ?_
    simp only [List.mem_cons, List.not_mem_nil, or_false] at hM
    rcases hM with rfl | rfl | rfl | rfl
    · exact parse0_run
    · exact parse1_run
    · exact parse2_run
    · exact parse3_run
  · unfold hkG at hf
    split at hf
    · cases hf
      exact fmt_ok
    · unfold hkF at hf
      split at hf <;> cases hf
      · exact hookCaught_ok
      · exact hookOps_ok
      · exact hookCheck_ok
theorem sanity_run : @runF s0 hk2 Tryz.prog 100000 4 [] Eng.isTrue = true := by decide +kernel
theorem sanity_any (w : World) : Calls Tryz.prog 4 #[] w (fun e w' => e = .returned (.bool true) ∧ Only w w') := by
  letI := s0
  letI := hk2
  haveI := hk2_ok
  exact runF_only follows sanity_run w
end Go.Proofs.YtlfmgfgcaepmjaaGreat
