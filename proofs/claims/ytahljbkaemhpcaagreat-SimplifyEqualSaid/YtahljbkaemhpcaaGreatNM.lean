/- A program with one thing changed: Turned, whole. -/
import Derived.Test.YtahljbkaemhpcaaGreatNF
import Derived.Test.YtahljbkaemhpcaaGreatNG
import Derived.Test.YtahljbkaemhpcaaGreatNH
import Derived.Test.YtahljbkaemhpcaaGreatNI
import Derived.Test.YtahljbkaemhpcaaGreatNJ
import Derived.Test.YtahljbkaemhpcaaGreatNL
namespace Go.Proofs.YtahljbkaemhpcaaGreat
open Go.RowKit
set_option linter.unusedVariables false
theorem turned_any (B K : Nat) (w : World) (fa : Option Addr) (n fc : Nat) (aa : Option Addr) (na ac : Nat) (en ha : Int) (da : Option Addr) (nd dc : Nat) (ba : Option Addr) (nb bc : Nat) (q0 q1 q2 : Int) (hw : WT B K w) (hB : B ≤ w.heap.size) (hK : K + 2 ≤ big) (hp : TP B K w fa n fc aa na ac da nd dc ba nb bc) :
    Calls Tryz.prog 6 #[.agg #[.slice fa n fc, .slice aa na ac, .int .i64 en, .int .i64 ha, .slice da nd dc, .slice ba nb bc], .agg #[.int .i64 q0, .int .i64 q1, .int .i64 q2]] w (ProgK B (K + 2) w B) := by
  by_cases d13 : (wrap64 (q0.tmod 20 + 20)).tmod 20 = 13
  · exact turned13 B K w fa n fc aa na ac en ha da nd dc ba nb bc q0 q1 q2 d13 hw hB hK hp
  by_cases d14 : (wrap64 (q0.tmod 20 + 20)).tmod 20 = 14
  · exact turned14 B K w fa n fc aa na ac en ha da nd dc ba nb bc q0 q1 q2 d14 hw hB hK hp
  by_cases d15 : (wrap64 (q0.tmod 20 + 20)).tmod 20 = 15
  · exact turned15 B K w fa n fc aa na ac en ha da nd dc ba nb bc q0 q1 q2 d15 hw hB hK hp
  by_cases d16 : (wrap64 (q0.tmod 20 + 20)).tmod 20 = 16
  · exact turned16 B K w fa n fc aa na ac en ha da nd dc ba nb bc q0 q1 q2 d16 hw hB hK hp
  by_cases d17 : (wrap64 (q0.tmod 20 + 20)).tmod 20 = 17
  · exact turned17 B K w fa n fc aa na ac en ha da nd dc ba nb bc q0 q1 q2 d17 hw hB hK hp
  by_cases d18 : (wrap64 (q0.tmod 20 + 20)).tmod 20 = 18
  · exact turned18 B K w fa n fc aa na ac en ha da nd dc ba nb bc q0 q1 q2 d18 hw hB hK hp
  exact turnedD B K w fa n fc aa na ac en ha da nd dc ba nb bc q0 q1 q2 (by simpa using d13) (by simpa using d14) (by simpa using d15) (by simpa using d16) (by simpa using d17) (by simpa using d18) hw hB hK hp
end Go.Proofs.YtahljbkaemhpcaaGreat
