/- The law's own check of itself is true. -/
import Derived.Test.YtnbicnmniodjpaaGreatD5
import Derived.Test.YtnbicnmniodjpaaGreatB1
import Derived.Test.YtnbicnmniodjpaaGreatB2
import Derived.Test.YtnbicnmniodjpaaGreatB3
set_option linter.unusedSimpArgs false
set_option linter.unusedVariables false
set_option linter.unusedSectionVars false
namespace Go.Eng
set_option linter.unusedVariables false
set_option linter.unusedSectionVars false
theorem runF_only [Sym] [Hooks] {P : Program} [HooksOK P] (hm : P.follows .mixedOrders = true) {fuel : Nat} {f : FuncId} (h : runF P fuel f [] isTrue = true) (w : World) :
    Calls P f #[] w (fun e w' => e = .returned (.bool true) ∧ Only w w') := by
  unfold runF at h
  rw [funBF_eq] at h
  have hs : SRel (fun b => b < w.heap.size) (fun _ _ => none) ⟨.lf, 0, 0⟩ w := ⟨fun _ _ _ h => by (cases h), fun _ _ _ _ _ _ h => by (cases h), fun _ h => h⟩
  refine Calls.mono (callBody_spec (execF_ok (draw_ok hm) fuel) f _ _ _ _ h _ w #[] hs .nil).2 ?_
  rintro e w' (⟨v, st', ρ', v', rfl, h1, h2, h3, h4⟩ | ⟨_, _, _, _, _, hno, _⟩)
  · refine ⟨?_, Only.of_adv h4⟩
    cases h3 <;> first | (simp [isTrue] at h1; done) | skip
    rename_i b
    cases b
    · simp [isTrue] at h1
    · rfl
  · cases hno
end Go.Eng
namespace Go.Proofs.YtnbicnmniodjpaaGreat
open Go.RowKit Go.Eng
set_option linter.unusedVariables false
set_option linter.unusedSectionVars false
theorem hk_ok (S : Sym) : @HooksOK S hk Tryz.prog := by
  letI := S
  letI := hk
  refine ⟨fun f h hf => ?_⟩
  have hf : hkF f = some h := hf
  unfold hkF at hf
  split at hf <;> cases hf
  · exact hookBlank_ok
  · exact hookGet_ok
theorem callable17 : Callable Tryz.prog 17 := ⟨Tryz.f17, _, Tryz.func17, rfl, by kernel_rfl⟩
theorem hk2_ok : @HooksOK s0 hk2 Tryz.prog := by
  letI := s0
  letI := hk2
  refine ⟨fun f h hf => ?_⟩
  have hf : hkS f = some h := hf
  unfold hkS at hf
  split at hf
  · cases hf
    refine hookMemo_ok (kk := hk) (fuel := 100000) follows callable17 (hk_ok s0) fun M hM => ?_
    simp only [List.mem_cons, List.not_mem_nil, or_false] at hM
    rcases hM with rfl | rfl
    · exact lift1_run
    · exact lift2_run
  · unfold hkF at hf
    split at hf <;> cases hf
    · exact hookBlank_ok
    · exact hookGet_ok
theorem sanity_any (w : World) : Calls Tryz.prog 4 #[] w (fun e w' => e = .returned (.bool true) ∧ Only w w') := by
  letI := s0
  letI := hk2
  haveI := hk2_ok
  exact runF_only follows sanity_run w
theorem hk3_ok (S : Sym) : @HooksOK S hk3 Tryz.prog := by
  letI := S
  letI := hk3
  refine ⟨fun f h hf => ?_⟩
  have hf : hkL f = some h := hf
  unfold hkL at hf
  split at hf
  · cases hf
    intro call hcall B args st k kp hk ρ w args' hs ha
    refine ⟨⟨Tryz.f4, _, Tryz.func4, rfl, by decide⟩, ?_⟩
    unfold hookTrue at hk
    simp only [] at hk
    split at hk <;> (try (cases hk; done))
    obtain ⟨al⟩ := args'
    cases ha
    refine (sanity_any w).mono ?_
    rintro e w' ⟨rfl, hO⟩
    exact .inl ⟨_, st, ρ, _, rfl, hk, hO.rel hs, .bool _, hO.adv hs⟩
  · unfold hkF at hf
    split at hf <;> cases hf
    · exact hookBlank_ok
    · exact hookGet_ok
end Go.Proofs.YtnbicnmniodjpaaGreat
