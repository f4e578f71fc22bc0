/- The law, for all arguments. -/
import Derived.Test.YtnbicnmniodjpaaGreatA3
import Derived.Test.YtnbicnmniodjpaaGreatC0
import Derived.Test.YtnbicnmniodjpaaGreatC1
import Derived.Test.YtnbicnmniodjpaaGreatC2
import Derived.Test.YtnbicnmniodjpaaGreatC3
import Derived.Test.YtnbicnmniodjpaaGreatC4
import Derived.Test.YtnbicnmniodjpaaGreatC5
import Derived.Test.YtnbicnmniodjpaaGreatC6
import Derived.Test.YtnbicnmniodjpaaGreatC7
import Derived.Test.YtnbicnmniodjpaaGreatC8
import Derived.Test.YtnbicnmniodjpaaGreatC9
import Derived.Test.YtnbicnmniodjpaaGreatCA
import Derived.Test.YtnbicnmniodjpaaGreatCB
import Derived.Test.YtnbicnmniodjpaaGreatCC
import Derived.Test.YtnbicnmniodjpaaGreatCD
import Derived.Test.YtnbicnmniodjpaaGreatCE
import Derived.Test.YtnbicnmniodjpaaGreatCF
set_option linter.unusedSimpArgs false
set_option linter.unusedVariables false
set_option linter.unusedSectionVars false
namespace Go.Proofs.YtnbicnmniodjpaaGreat
open Go.RowKit Go.Eng
set_option linter.unusedVariables false
set_option linter.unusedSectionVars false
theorem run_law (t o n : Nat) (ho : o % 16 = n) (r : Bool) (h : @runFS (sT t o n ho) hk3 Tryz.prog 100000 3 ⟨.lf, 0, 0⟩ [.sym .u8 2, .sym .u16 0, .bool r] (fun v _ => isTrue v) = true) (w : World) :
    Calls Tryz.prog 3 #[.int .u8 (o : Int), .int .u16 (t : Int), .bool r] w (fun e w' => e = .returned (.bool true) ∧ Only w w') := by
  letI := sT t o n ho
  letI := hk3
  haveI := hk3_ok (sT t o n ho)
  have hs : SRel (fun b => b < w.heap.size) (fun _ _ => none) ⟨.lf, 0, 0⟩ w := ⟨fun _ _ _ h => by (cases h), fun _ _ _ _ _ _ h => by (cases h), fun _ h => h⟩
  have ha : VsRel (fun _ _ => none) [.sym .u8 2, .sym .u16 0, .bool r] (#[.int .u8 (o : Int), .int .u16 (t : Int), .bool r] : Array Value).toList :=
    .cons _ _ _ _ (.sym .u8 2) (.cons _ _ _ _ (.sym .u16 0) (.cons _ _ _ _ (.bool r) .nil))
  refine (runFS_calls follows hs ha h).mono ?_
  rintro e w' ⟨v, st', ρ', v', rfl, h1, h2, h3, h4⟩
  refine ⟨?_, Only.of_adv h4⟩
  cases h2 <;> first | (simp [Eng.isTrue] at h1; done) | skip
  rename_i b
  cases b
  · simp [Eng.isTrue] at h1
  · rfl
theorem law_any (w : World) (o t : Nat) (r : Bool) : Calls Tryz.prog 3 #[.int .u8 (o : Int), .int .u16 (t : Int), .bool r] w (fun e w' => e = .returned (.bool true) ∧ Low w.heap.size w w') := by
  have key : Calls Tryz.prog 3 #[.int .u8 (o : Int), .int .u16 (t : Int), .bool r] w (fun e w' => e = .returned (.bool true) ∧ Only w w') := by
    obtain ⟨n, hn⟩ : ∃ n, o % 16 = n := ⟨_, rfl⟩
    have hlt : n < 16 := by omega
    match n, hn, hlt with
    | 0, hn, _ => exact (by cases r; exact run_law t o 0 hn false (law_0_f t o hn) w; exact run_law t o 0 hn true (law_0_t t o hn) w)
    | 1, hn, _ => exact (by cases r; exact run_law t o 1 hn false (law_1_f t o hn) w; exact run_law t o 1 hn true (law_1_t t o hn) w)
    | 2, hn, _ => exact (by cases r; exact run_law t o 2 hn false (law_2_f t o hn) w; exact run_law t o 2 hn true (law_2_t t o hn) w)
    | 3, hn, _ => exact (by cases r; exact run_law t o 3 hn false (law_3_f t o hn) w; exact run_law t o 3 hn true (law_3_t t o hn) w)
    | 4, hn, _ => exact (by cases r; exact run_law t o 4 hn false (law_4_f t o hn) w; exact run_law t o 4 hn true (law_4_t t o hn) w)
    | 5, hn, _ => exact (by cases r; exact run_law t o 5 hn false (law_5_f t o hn) w; exact run_law t o 5 hn true (law_5_t t o hn) w)
    | 6, hn, _ => exact (by cases r; exact run_law t o 6 hn false (law_6_f t o hn) w; exact run_law t o 6 hn true (law_6_t t o hn) w)
    | 7, hn, _ => exact (by cases r; exact run_law t o 7 hn false (law_7_f t o hn) w; exact run_law t o 7 hn true (law_7_t t o hn) w)
    | 8, hn, _ => exact (by cases r; exact run_law t o 8 hn false (law_8_f t o hn) w; exact run_law t o 8 hn true (law_8_t t o hn) w)
    | 9, hn, _ => exact (by cases r; exact run_law t o 9 hn false (law_9_f t o hn) w; exact run_law t o 9 hn true (law_9_t t o hn) w)
    | 10, hn, _ => exact (by cases r; exact run_law t o 10 hn false (law_10_f t o hn) w; exact run_law t o 10 hn true (law_10_t t o hn) w)
    | 11, hn, _ => exact (by cases r; exact run_law t o 11 hn false (law_11_f t o hn) w; exact run_law t o 11 hn true (law_11_t t o hn) w)
    | 12, hn, _ => exact (by cases r; exact run_law t o 12 hn false (law_12_f t o hn) w; exact run_law t o 12 hn true (law_12_t t o hn) w)
    | 13, hn, _ => exact (by cases r; exact run_law t o 13 hn false (law_13_f t o hn) w; exact run_law t o 13 hn true (law_13_t t o hn) w)
    | 14, hn, _ => exact (by cases r; exact run_law t o 14 hn false (law_14_f t o hn) w; exact run_law t o 14 hn true (law_14_t t o hn) w)
    | 15, hn, _ => exact (by cases r; exact run_law t o 15 hn false (law_15_f t o hn) w; exact run_law t o 15 hn true (law_15_t t o hn) w)
    | n + 16, hn, h => omega
  exact key.mono fun e w' h => ⟨h.1, low_only h.2⟩
end Go.Proofs.YtnbicnmniodjpaaGreat
