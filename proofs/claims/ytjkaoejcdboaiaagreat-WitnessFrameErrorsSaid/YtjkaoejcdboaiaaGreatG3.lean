/- The fourth pair has no witness. -/
import Derived.Test.YtjkaoejcdboaiaaGreatF2
set_option linter.unusedSimpArgs false
set_option linter.unusedVariables false
set_option linter.unusedSectionVars false
namespace Go.Proofs.YtjkaoejcdboaiaaGreat
open Go.RowKit Go.Eng
set_option linter.unusedVariables false
set_option linter.unusedSectionVars false
set_option maxRecDepth 100000
theorem find3 : @Memo.runs hk Tryz.prog 100000 9 (noneM a3 c3) = true := by decide +kernel
end Go.Proofs.YtjkaoejcdboaiaaGreat
