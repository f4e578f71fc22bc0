/- Size of every byte. -/
import Derived.Test.YtjkaoejcdboaiaaGreatL2
set_option linter.unusedSimpArgs false
set_option linter.unusedVariables false
set_option linter.unusedSectionVars false
namespace Go.Proofs.YtjkaoejcdboaiaaGreat
open Go.RowKit Go.Eng
set_option linter.unusedVariables false
set_option linter.unusedSectionVars false
set_option maxRecDepth 100000
theorem size_run0 : (List.range' 0 64).all (fun n => flatRun 76 [.int .u8 (.ofNat n)] (sizeA n)) = true := by decide +kernel
theorem size_run1 : (List.range' 64 64).all (fun n => flatRun 76 [.int .u8 (.ofNat n)] (sizeA n)) = true := by decide +kernel
theorem size_run2 : (List.range' 128 64).all (fun n => flatRun 76 [.int .u8 (.ofNat n)] (sizeA n)) = true := by decide +kernel
theorem size_run3 : (List.range' 192 64).all (fun n => flatRun 76 [.int .u8 (.ofNat n)] (sizeA n)) = true := by decide +kernel
theorem size_any {op : Nat} (hop : op < 256) (w : World) : Calls Tryz.prog 76 #[.int .u8 op] w (fun e w' => e = .returned (.int .i64 (sizeP op)) ∧ Only w w') :=
  flat_calls (c := sizeA op) (fun ρ => by letI := s0; exact .cons _ _ _ _ (.int _ _) .nil) rfl (bytes_all size_run0 size_run1 size_run2 size_run3 hop) w
end Go.Proofs.YtjkaoejcdboaiaaGreat
