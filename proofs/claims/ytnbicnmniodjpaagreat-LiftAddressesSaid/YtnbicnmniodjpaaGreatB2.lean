/- What lifting image 2 of the law's own check comes to. -/
import Derived.Test.YtnbicnmniodjpaaGreatA1
set_option linter.unusedSimpArgs false
set_option linter.unusedVariables false
set_option linter.unusedSectionVars false
namespace Go.Proofs.YtnbicnmniodjpaaGreat
open Go.RowKit Go.Eng
set_option maxRecDepth 100000
theorem lift2_run : @Memo.runs s0 hk Tryz.prog 100000 17 lift2 = true := by decide +kernel
end Go.Proofs.YtnbicnmniodjpaaGreat
