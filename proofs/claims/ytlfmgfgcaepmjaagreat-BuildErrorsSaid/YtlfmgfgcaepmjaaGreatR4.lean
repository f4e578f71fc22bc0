/- The row's facts together. -/
import Derived.Test.YtlfmgfgcaepmjaaGreatR3
set_option linter.unusedSimpArgs false
set_option linter.unusedVariables false
set_option linter.unusedSectionVars false
namespace Go.Proofs.YtlfmgfgcaepmjaaGreat
open Go
set_option linter.unusedVariables false
set_option maxRecDepth 100000
theorem closedT : joinedFacts Tryz.prog 3 Tryz.f3 Rows.buildErrorsSpec Rows.buildErrorsRow = true := by
  unfold joinedFacts
  rw [Tryz.laidOut, mapsRowedT, stopsT, stopKnobsT, inPlace3, unfollowed3, recurses3, varsNamed3, plainKeysT, stopsHeardT, mayEnterT, liftsFinalT, makeT]
  kernel_rfl
end Go.Proofs.YtlfmgfgcaepmjaaGreat
