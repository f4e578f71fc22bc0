/- The first pair's witness is accepted. -/
import Derived.Test.YtjkaoejcdboaiaaGreatF2
set_option linter.unusedSimpArgs false
set_option linter.unusedVariables false
set_option linter.unusedSectionVars false
namespace Go.Proofs.YtjkaoejcdboaiaaGreat
open Go.RowKit Go.Eng
set_option linter.unusedVariables false
set_option linter.unusedSectionVars false
set_option maxRecDepth 100000
theorem check0 : @Memo.runs hk Tryz.prog 100000 11 (checkM a0 c0) = true := by decide +kernel
end Go.Proofs.YtjkaoejcdboaiaaGreat
