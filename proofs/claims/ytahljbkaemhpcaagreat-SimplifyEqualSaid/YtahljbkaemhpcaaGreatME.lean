/- The maker: part at the depths that occur. -/
import Derived.Test.YtahljbkaemhpcaaGreatMC
import Derived.Test.YtahljbkaemhpcaaGreatMD
namespace Go.Proofs.YtahljbkaemhpcaaGreat
open Go.RowKit
set_option linter.unusedVariables false
theorem part0 (c : Cx) : Good c 14 #[.pointer (some ⟨c.m, 0, none⟩), .int .i64 ((0 : Nat) : Int)] 170 := part_good c 0 0 (by decide) (fun h => by omega) (fun h => by omega)
theorem part_next (c : Cx) (deep N : Nat) (hd2 : deep + 1 ≤ 2) (h : Good c 14 #[.pointer (some ⟨c.m, 0, none⟩), .int .i64 (deep : Int)] N) : Good c 14 #[.pointer (some ⟨c.m, 0, none⟩), .int .i64 ((deep + 1 : Nat) : Int)] (4 * N + 60 + 170) := by
  refine part_good c (deep + 1) (4 * N + 60) hd2 (fun _ n h2 h4 => ?_) (fun _ => (loop_good c deep N hd2 h).more (by omega))
  obtain ⟨q, rfl⟩ := Int.eq_ofNat_of_zero_le (show 0 ≤ n by omega)
  exact choice_good c deep N hd2 h q (by omega) (by omega)
theorem part1 (c : Cx) : Good c 14 #[.pointer (some ⟨c.m, 0, none⟩), .int .i64 1] 910 := part_next c 0 170 (by decide) (part0 c)
theorem part2 (c : Cx) : Good c 14 #[.pointer (some ⟨c.m, 0, none⟩), .int .i64 2] 3870 := part_next c 1 910 (by decide) (part1 c)
end Go.Proofs.YtahljbkaemhpcaaGreat
