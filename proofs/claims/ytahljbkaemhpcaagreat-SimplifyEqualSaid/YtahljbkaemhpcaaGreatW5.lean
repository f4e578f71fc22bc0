import Derived.Test.YtahljbkaemhpcaaGreatW4
namespace Go.Proofs.YtahljbkaemhpcaaGreat
open Go.RowKit
set_option linter.unusedVariables false
set_option maxHeartbeats 1000000 in
theorem refEdge_any (w : World) (x y : Edg) (sa sb : Option Addr) (la lb ca cb : Nat) (hla : la ≤ 1099511627776) (ha : RInts w sa la x.args) (hb : RInts w sb lb y.args) :
    Calls Tryz.prog 23 #[.agg #[.int .i64 x.block, .slice sa la ca], .agg #[.int .i64 y.block, .slice sb lb cb]] w (SaysB (decide (x = y)) w) := by
  obtain ⟨bx, xs⟩ := x
  obtain ⟨by_, ys⟩ := y
  simp only at ha hb ⊢
  have HA := Lib.hid ha; have HB := Lib.hid hb
  clear ha hb
  go_enter Tryz.func23, Tryz.ntmps23
  go_wp2_with (first | (go_at_call 21; refine (ints_any _ _ _ _ _ _ _ hla xs ys (HA.out.below (bel_two _ _ _)) (HB.out.below (bel_two _ _ _))).mono ?_; rintro e w' ⟨rfl, k, rfl⟩))
  all_goals (go_ret; first | exact ⟨by simp [*], bel_two _ _ _⟩ | exact ⟨by simp [*], bel_drewN (bel_two _ _ _) _⟩)
theorem Says.at {b b' : Bool} {w : World} (h : b = b') (e : Ending) (w' : World) (hs : Says b w e w') : Says b' w e w' := h ▸ hs
set_option maxHeartbeats 1000000 in
theorem refOp_any (w : World) (x y : Opr) (sa sb : Option Addr) (la lb ca cb : Nat) (hla : la ≤ 1099511627776) (ha : RInts w sa la x.args) (hb : RInts w sb lb y.args) :
    Calls Tryz.prog 22 #[.agg #[.int .i64 x.code, .int .i64 x.res, .int .i64 x.a, .int .i64 x.b, .int .u16 x.n, .slice sa la ca], .agg #[.int .i64 y.code, .int .i64 y.res, .int .i64 y.a, .int .i64 y.b, .int .u16 y.n, .slice sb lb cb]] w (SaysB (decide (x = y)) w) := by
  obtain ⟨x1, x2, x3, x4, x5, xs⟩ := x
  obtain ⟨y1, y2, y3, y4, y5, ys⟩ := y
  simp only at ha hb ⊢
  have HA := Lib.hid ha; have HB := Lib.hid hb
  clear ha hb
  by_cases hxy : xs = ys
  · have H := Lib.hid hxy; clear hxy
    go_enter Tryz.func22, Tryz.ntmps22
    go_wp2_with (first | (go_at_call 21; refine ((ints_any _ _ _ _ _ _ _ hla xs ys (HA.out.below (bel_two _ _ _)) (HB.out.below (bel_two _ _ _))).mono (Says.at (b' := true) (by simp [H.out]))).mono ?_; rintro e w' ⟨rfl, k, rfl⟩))
    all_goals (go_ret; refine ⟨?_, bel_drewN (bel_two _ _ _) _⟩; first | (simp [*, H.out]; done) | (simp [*, H.out]; rw [Bool.eq_iff_iff]; simp))
  · have H := Lib.hid hxy; clear hxy
    go_enter Tryz.func22, Tryz.ntmps22
    go_wp2_with (first | (go_at_call 21; refine ((ints_any _ _ _ _ _ _ _ hla xs ys (HA.out.below (bel_two _ _ _)) (HB.out.below (bel_two _ _ _))).mono (Says.at (b' := false) (by simp [H.out]))).mono ?_; rintro e w' ⟨rfl, k, rfl⟩))
    all_goals (go_ret; refine ⟨?_, bel_drewN (bel_two _ _ _) _⟩; first | (simp [*, H.out]; done) | (simp [*, H.out]; rw [Bool.eq_iff_iff]; simp))
end Go.Proofs.YtahljbkaemhpcaaGreat
