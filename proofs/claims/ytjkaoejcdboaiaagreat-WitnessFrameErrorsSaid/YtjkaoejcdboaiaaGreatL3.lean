/- formatOf of every byte. -/
import Derived.Test.YtjkaoejcdboaiaaGreatL2
set_option linter.unusedSimpArgs false
set_option linter.unusedVariables false
set_option linter.unusedSectionVars false
namespace Go.Proofs.YtjkaoejcdboaiaaGreat
open Go.RowKit Go.Eng
set_option linter.unusedVariables false
set_option linter.unusedSectionVars false
set_option maxRecDepth 100000
theorem fmt_run0 : (List.range' 0 64).all (fun n => flatRun 75 [.int .i64 (.ofNat n)] (fmtA n)) = true := by decide +kernel
theorem fmt_run1 : (List.range' 64 64).all (fun n => flatRun 75 [.int .i64 (.ofNat n)] (fmtA n)) = true := by decide +kernel
theorem fmt_run2 : (List.range' 128 64).all (fun n => flatRun 75 [.int .i64 (.ofNat n)] (fmtA n)) = true := by decide +kernel
theorem fmt_run3 : (List.range' 192 64).all (fun n => flatRun 75 [.int .i64 (.ofNat n)] (fmtA n)) = true := by decide +kernel
theorem formatOf_any {op : Nat} (hop : op < 256) (w : World) : Calls Tryz.prog 75 #[.int .i64 op] w (fun e w' => e = .returned (valV 6 (fmtA op)) ∧ Only w w') :=
  flat_calls (fun ρ => by letI := s0; exact .cons _ _ _ _ (.int _ _) .nil) (plain_fmt op) (bytes_all fmt_run0 fmt_run1 fmt_run2 fmt_run3 hop) w
end Go.Proofs.YtjkaoejcdboaiaaGreat
