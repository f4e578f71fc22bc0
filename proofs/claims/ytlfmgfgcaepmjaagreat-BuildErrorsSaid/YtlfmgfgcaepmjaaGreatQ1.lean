/- The law, for all arguments. -/
import Derived.Test.YtlfmgfgcaepmjaaGreatC0
import Derived.Test.YtlfmgfgcaepmjaaGreatC1
import Derived.Test.YtlfmgfgcaepmjaaGreatC2
import Derived.Test.YtlfmgfgcaepmjaaGreatC3
set_option linter.unusedSimpArgs false
set_option linter.unusedVariables false
set_option linter.unusedSectionVars false
set_option linter.unusedSimpArgs false
set_option linter.unusedVariables false
set_option linter.unusedSectionVars false
namespace Go.Proofs.YtlfmgfgcaepmjaaGreat
open Go.RowKit Go.Eng
set_option linter.unusedVariables false
set_option linter.unusedSectionVars false
theorem run_law (o n : Nat) (ho : o % 8 = n) (h : @runFS (sO o n ho) hk3 Tryz.prog 100000 3 ⟨.lf, 0, 0⟩ [.sym .u8 0] (fun v _ => isTrue v) = true) (w : World) :
    Calls Tryz.prog 3 #[.int .u8 (o : Int)] w (fun e w' => e = .returned (.bool true) ∧ Only w w') := by
  letI := sO o n ho
  letI := hk3
  haveI := hk3_ok (sO o n ho)
  have hs : SRel (fun b => b < w.heap.size) (fun _ _ => none) ⟨.lf, 0, 0⟩ w := ⟨fun _ _ _ h => by (cases h), fun _ _ _ _ _ _ h => by (cases h), fun _ h => h⟩
  have ha : VsRel (fun _ _ => none) [.sym .u8 0] (#[.int .u8 (o : Int)] : Array Value).toList := .cons _ _ _ _ (.sym .u8 0) .nil
  refine (runFS_calls follows hs ha h).mono ?_
  rintro e w' ⟨v, st', ρ', v', rfl, h1, h2, h3, h4⟩
  refine ⟨?_, Only.of_adv h4⟩
  cases h2 <;> first | (simp [Eng.isTrue] at h1; done) | skip
  rename_i b
  cases b
  · simp [Eng.isTrue] at h1
  · rfl
theorem law_any (w : World) (o : Nat) : Calls Tryz.prog 3 #[.int .u8 (o : Int)] w (fun e w' => e = .returned (.bool true) ∧ Low w.heap.size w w') := by
  have key : Calls Tryz.prog 3 #[.int .u8 (o : Int)] w (fun e w' => e = .returned (.bool true) ∧ Only w w') := by
    obtain ⟨n, hn⟩ : ∃ n, o % 8 = n := ⟨_, rfl⟩
    have hlt : n < 8 := by omega
    match n, hn, hlt with
    | 0, hn, _ => exact run_law o 0 hn (law_0 o hn) w
    | 1, hn, _ => exact run_law o 1 hn (law_1 o hn) w
    | 2, hn, _ => exact run_law o 2 hn (law_2 o hn) w
    | 3, hn, _ => exact run_law o 3 hn (law_3 o hn) w
    | 4, hn, _ => exact run_law o 4 hn (law_4 o hn) w
    | 5, hn, _ => exact run_law o 5 hn (law_5 o hn) w
    | 6, hn, _ => exact run_law o 6 hn (law_6 o hn) w
    | 7, hn, _ => exact run_law o 7 hn (law_7 o hn) w
    | n + 8, hn, h => omega
  exact key.mono fun e w' h => ⟨h.1, ⟨h.2.os, h.2.out, h.2.size, h.2.low⟩⟩
end Go.Proofs.YtlfmgfgcaepmjaaGreat
