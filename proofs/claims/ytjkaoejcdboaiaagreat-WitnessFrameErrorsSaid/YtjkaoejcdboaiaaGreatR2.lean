/- The law's own check of itself is true. -/
import Derived.Test.YtjkaoejcdboaiaaGreatG0
import Derived.Test.YtjkaoejcdboaiaaGreatG1
import Derived.Test.YtjkaoejcdboaiaaGreatG2
import Derived.Test.YtjkaoejcdboaiaaGreatG3
import Derived.Test.YtjkaoejcdboaiaaGreatG4
import Derived.Test.YtjkaoejcdboaiaaGreatG5
import Derived.Test.YtjkaoejcdboaiaaGreatG6
import Derived.Test.YtjkaoejcdboaiaaGreatT2
set_option linter.unusedSimpArgs false
set_option linter.unusedVariables false
set_option linter.unusedSectionVars false
/- The hooks of the law's own check. -/
namespace Go.Proofs.YtjkaoejcdboaiaaGreat
open Go.RowKit Go.Eng
set_option linter.unusedVariables false
set_option linter.unusedSectionVars false
set_option maxRecDepth 100000
def finds : List Memo := [foundM a0 c0, foundM a1 c1, noneM c0 a1, noneM a3 c3, noneM a4 a4]
theorem finds_ok : ∀ M ∈ finds, @Memo.runs hk Tryz.prog 100000 9 M = true := by
  intro M h
  simp only [finds, List.mem_cons, List.not_mem_nil, or_false] at h
  rcases h with rfl | rfl | rfl | rfl | rfl
  · exact find0
  · exact find1
  · exact find2
  · exact find3
  · exact find4
def checks : List Memo := [checkM a0 c0, checkM a1 c1]
theorem checks_ok : ∀ M ∈ checks, @Memo.runs hk Tryz.prog 100000 11 M = true := by
  intro M h
  simp only [checks, List.mem_cons, List.not_mem_nil, or_false] at h
  rcases h with rfl | rfl
  · exact check0
  · exact check1
noncomputable def hkS (f : FuncId) : Option Hook :=
  match f with
  | 9 => some (hookMemo finds)
  | 11 => some (hookMemo checks)
  | f => hkF f
@[reducible] noncomputable def hk2 : Hooks := ⟨hkS⟩
theorem callable9 : Callable Tryz.prog 9 := ⟨Tryz.f9, _, Tryz.func9, rfl, by kernel_rfl⟩
theorem callable11 : Callable Tryz.prog 11 := ⟨Tryz.f11, _, Tryz.func11, rfl, by kernel_rfl⟩
theorem hk2_ok (S : Sym) : @HooksOK S hk2 Tryz.prog := by
  letI := S
  letI := hk2
  refine ⟨fun f h hf => ?_⟩
  have hf : hkS f = some h := hf
  unfold hkS at hf
  split at hf
  · cases hf
    exact hookMemo_ok (kk := hk) follows callable9 (hk_ok S) finds_ok
  · cases hf
    exact hookMemo_ok (kk := hk) follows callable11 (hk_ok S) checks_ok
  · unfold hkF at hf
    split at hf <;> cases hf
    · exact hook20_ok
    · exact hookMap_ok _ _
    · exact hookGuard_ok
    · exact hook42_ok
    · exact hook43_ok
    · exact hook72_ok
    · exact hook105_ok
end Go.Proofs.YtjkaoejcdboaiaaGreat
/- The law's own check of itself is true: a closed call, run by the verified interpreter. -/
namespace Go.Proofs.YtjkaoejcdboaiaaGreat
open Go.RowKit Go.Eng
set_option linter.unusedVariables false
set_option linter.unusedSectionVars false
set_option maxRecDepth 100000
theorem sanity_run : @runF hk2 Tryz.prog 100000 4 [] isTrue = true := by decide +kernel
end Go.Proofs.YtjkaoejcdboaiaaGreat
namespace Go.Eng
set_option linter.unusedVariables false
set_option linter.unusedSectionVars false
theorem runF_only [Sym] [Hooks] {P : Program} [HooksOK P] (hm : P.follows .mixedOrders = true) {fuel : Nat} {f : FuncId} (h : runF P fuel f [] isTrue = true) (w : World) :
    Calls P f #[] w (fun e w' => e = .returned (.bool true) ∧ Only w w') := by
  unfold runF at h
  rw [funBF_eq] at h
  have hs : SRel (fun b => b < w.heap.size) (fun _ _ => none) ⟨.lf, 0, 0⟩ w := ⟨fun _ _ _ h => by (cases h), fun _ _ _ _ _ _ h => by (cases h), fun _ h => h⟩
  refine Calls.mono (callBody_spec (execF_ok (draw_ok hm) fuel) f _ _ _ _ h _ w #[] hs .nil).2 ?_
  rintro e w' (⟨v, st', ρ', v', rfl, h1, h2, h3, h4⟩ | ⟨_, _, _, _, _, hno, _⟩)
  · refine ⟨?_, Only.of_adv h4⟩
    cases h3 <;> first | (simp [isTrue] at h1; done) | skip
    rename_i b
    cases b
    · simp [isTrue] at h1
    · rfl
  · cases hno
end Go.Eng
namespace Go.Proofs.YtjkaoejcdboaiaaGreat
open Go.RowKit Go.Eng
set_option linter.unusedVariables false
set_option linter.unusedSectionVars false
theorem sanity_any (w : World) : Calls Tryz.prog 4 #[] w (fun e w' => e = .returned (.bool true) ∧ Low w.heap.size w w') := by
  letI := s0
  letI := hk2
  haveI := hk2_ok s0
  exact (runF_only follows sanity_run w).mono fun _ _ h => ⟨h.1, h.2.lo⟩
end Go.Proofs.YtjkaoejcdboaiaaGreat
