/- The facts of the row that look at all that the law reaches. -/
import Derived.Test.YtlfmgfgcaepmjaaGreatR1
import Derived.Test.YtlfmgfgcaepmjaaGreatRows
import Derived.JoinedOf
set_option linter.unusedSimpArgs false
set_option linter.unusedVariables false
set_option linter.unusedSectionVars false
namespace Go.Proofs.YtlfmgfgcaepmjaaGreat
open Go
set_option linter.unusedVariables false
set_option maxRecDepth 100000
theorem inPlace3 : Tryz.prog.inPlace 3 = ["internal/abi.NoEscape"] := by
  unfold Program.inPlace
  rw [closure3]
  kernel_rfl
theorem unfollowed3 : Tryz.prog.unfollowed 3 = true := by
  unfold Program.unfollowed
  rw [closure3]
  kernel_rfl
theorem recurses3 : Tryz.prog.recurses 3 = true := by
  unfold Program.recurses
  rw [unfollowed3]
  rfl
theorem varsNamed3 : Tryz.prog.varsNamed 3 = [] := by
  unfold Program.varsNamed
  rw [closure3]
  kernel_rfl
end Go.Proofs.YtlfmgfgcaepmjaaGreat
