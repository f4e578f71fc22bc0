/- The comparisons keep what is well typed: an edge, an operation. -/
import Derived.Test.YtahljbkaemhpcaaGreatN4
import Derived.Test.YtahljbkaemhpcaaGreatW8
namespace Go.Proofs.YtahljbkaemhpcaaGreat
open Go.RowKit
set_option linter.unusedVariables false
/-- Nothing older has changed, and everything is still well typed. -/
def TB (B K : Nat) (w w' : World) : Prop := Below w.heap.size w w' ∧ WT B K w'
def SaysT (B K : Nat) (b : Bool) (w : World) (e : Ending) (w' : World) : Prop := e = .returned (.bool b) ∧ TB B K w w'
section
variable {B K : Nat} {w w' w'' : World}
theorem TB.refl (h : WT B K w) : TB B K w w := ⟨Below.refl _ _, h⟩
theorem TB.trans (h : TB B K w w') (h' : TB B K w' w'') : TB B K w w'' := ⟨h.1.trans (h'.1.mono h.1.size), h'.2⟩
theorem TB.drewN (h : TB B K w w') (n : Nat) : TB B K w (w'.drewN n) := ⟨bel_drewN h.1 n, h.2⟩
theorem TB.drew (h : TB B K w w') : TB B K w w'.drew := ⟨h.1.drew, h.2⟩
theorem TB.sl {e sz n : Nat} {v : Value} (h : TB B K w w') (s : SlV B K w e sz v n) : SlV B K w' e sz v n := s.on (shape_below h.1) (Nat.le_refl _)
theorem func_typed {u : World} {v : Value} {m : Nat} (hv : SlV B K u 46 5 v m) : ∀ j ck, layK 34 j = some ck → ∀ v', (#[v] : Array Value)[j]? = some v' → Fits B K u ck v' := by
  intro j ck hl v' hv'
  cases hl
  match j, hv' with
  | 0, hv' => cases hv'; exact ⟨m, hv⟩
theorem tb_edge {A A' : Option Addr} {na ca na' ca' : Nat} {x y : Int} (hw : WT B K w) (sa : SlV B K w 3 1 (.slice A na ca) na) (sb : SlV B K w 3 1 (.slice A' na' ca') na') : TB B K w ((w.alloc (.cells #[.int .i64 x, .slice A na ca] 49)).alloc (.cells #[.int .i64 y, .slice A' na' ca'] 49)) :=
  ⟨bel_two _ _ _, (hw.alloc _ 49 (edge_typed sa)).alloc _ 49 (edge_typed (sb.on ((Shape.refl _).alloc _) (Nat.le_refl _)))⟩
theorem tb_op {A A' : Option Addr} {na ca na' ca' : Nat} {x0 x1 x2 x3 x4 y0 y1 y2 y3 y4 : Int} (hw : WT B K w) (sa : SlV B K w 3 1 (.slice A na ca) na) (sb : SlV B K w 3 1 (.slice A' na' ca') na') : TB B K w ((w.alloc (.cells #[.int .i64 x0, .int .i64 x1, .int .i64 x2, .int .i64 x3, .int .u16 x4, .slice A na ca] 40)).alloc (.cells #[.int .i64 y0, .int .i64 y1, .int .i64 y2, .int .i64 y3, .int .u16 y4, .slice A' na' ca'] 40)) :=
  ⟨bel_two _ _ _, (hw.alloc _ 40 (op_typed sa)).alloc _ 40 (op_typed (sb.on ((Shape.refl _).alloc _) (Nat.le_refl _)))⟩
theorem tb_blk {A0 A1 A4 A0' A1' A4' : Option Addr} {n0 n1 n4 k0 k1 k4 n0' n1' n4' k0' k1' k4' : Nat} {x2 x3 y2 y3 : Int} (hw : WT B K w) (s0 : SlV B K w 3 1 (.slice A0 n0 k0) n0) (s1 : SlV B K w 40 6 (.slice A1 n1 k1) n1) (s4 : SlV B K w 49 2 (.slice A4 n4 k4) n4) (t0 : SlV B K w 3 1 (.slice A0' n0' k0') n0') (t1 : SlV B K w 40 6 (.slice A1' n1' k1') n1') (t4 : SlV B K w 49 2 (.slice A4' n4' k4') n4') :
    TB B K w ((w.alloc (.cells #[.slice A0 n0 k0, .slice A1 n1 k1, .int .i64 x2, .int .i64 x3, .slice A4 n4 k4] 46)).alloc (.cells #[.slice A0' n0' k0', .slice A1' n1' k1', .int .i64 y2, .int .i64 y3, .slice A4' n4' k4'] 46)) := by
  have sh : Shape w (w.alloc (.cells #[.slice A0 n0 k0, .slice A1 n1 k1, .int .i64 x2, .int .i64 x3, .slice A4 n4 k4] 46)) := (Shape.refl _).alloc _
  exact ⟨bel_two _ _ _, (hw.alloc _ 46 (blk_typed s0 s1 s4)).alloc _ 46 (blk_typed (t0.on sh (Nat.le_refl _)) (t1.on sh (Nat.le_refl _)) (t4.on sh (Nat.le_refl _)))⟩
theorem tb_fun {A A' : Option Addr} {na ca na' ca' : Nat} (hw : WT B K w) (sa : SlV B K w 46 5 (.slice A na ca) na) (sb : SlV B K w 46 5 (.slice A' na' ca') na') : TB B K w ((w.alloc (.cells #[.slice A na ca] 34)).alloc (.cells #[.slice A' na' ca'] 34)) :=
  ⟨bel_two _ _ _, (hw.alloc _ 34 (func_typed sa)).alloc _ 34 (func_typed (sb.on ((Shape.refl _).alloc _) (Nat.le_refl _)))⟩
end
set_option maxHeartbeats 400000 in
theorem sameEdge_t {B K : Nat} (w : World) (x y : Edg) (sa sb : Option Addr) (la lb ca cb : Nat) (hla : la ≤ 1099511627776) (ha : RInts w sa la x.args) (hb : RInts w sb lb y.args) (hw : WT B K w) (vA : SlV B K w 3 1 (.slice sa la ca) la) (vB : SlV B K w 3 1 (.slice sb lb cb) lb) :
    Calls Tryz.prog 46 #[.agg #[.int .i64 x.block, .slice sa la ca], .agg #[.int .i64 y.block, .slice sb lb cb]] w (SaysT B K (decide (x = y)) w) := by
  obtain ⟨bx, xs⟩ := x
  obtain ⟨by_, ys⟩ := y
  simp only at ha hb ⊢
  have HA := Lib.hid ha; have HB := Lib.hid hb; have HW := Lib.hid hw; have VA := Lib.hid vA; have VB := Lib.hid vB
  clear ha hb hw vA vB
  by_cases h : bx = by_
  · subst h
    go_enter Tryz.func46, Tryz.ntmps46
    go_wp2_with (first | (go_at_call 41; refine (eqInt_any _ _ _ _ _ _ _ hla xs ys (HA.out.below (bel_two _ _ _)) (HB.out.below (bel_two _ _ _))).mono ?_; rintro e w' ⟨rfl, k, rfl⟩))
    go_ret
    exact ⟨by simp, (tb_edge HW.out VA.out VB.out).drewN k⟩
  · have hd : (bx == by_) = false := by simpa using h
    have H := Lib.hid h; clear h
    go_enter Tryz.func46, Tryz.ntmps46
    go_wp2
    go_ret
    exact ⟨by simp [H.out], tb_edge HW.out VA.out VB.out⟩
set_option maxHeartbeats 1000000 in
theorem sameOp_t {B K : Nat} (w : World) (x y : Opr) (sa sb : Option Addr) (la lb ca cb : Nat) (hla : la ≤ 1099511627776) (ha : RInts w sa la x.args) (hb : RInts w sb lb y.args) (hw : WT B K w) (vA : SlV B K w 3 1 (.slice sa la ca) la) (vB : SlV B K w 3 1 (.slice sb lb cb) lb) :
    Calls Tryz.prog 44 #[.agg #[.int .i64 x.code, .int .i64 x.res, .int .i64 x.a, .int .i64 x.b, .int .u16 x.n, .slice sa la ca], .agg #[.int .i64 y.code, .int .i64 y.res, .int .i64 y.a, .int .i64 y.b, .int .u16 y.n, .slice sb lb cb]] w (SaysT B K (decide (x = y)) w) := by
  obtain ⟨x1, x2, x3, x4, x5, xs⟩ := x
  obtain ⟨y1, y2, y3, y4, y5, ys⟩ := y
  simp only at ha hb ⊢
  have HA := Lib.hid ha; have HB := Lib.hid hb; have HW := Lib.hid hw; have VA := Lib.hid vA; have VB := Lib.hid vB
  clear ha hb hw vA vB
  go_enter Tryz.func44, Tryz.ntmps44
  go_wp2_with (first | (go_at_call 41; refine (eqInt_any _ _ _ _ _ _ _ hla xs ys (HA.out.below (bel_two _ _ _)) (HB.out.below (bel_two _ _ _))).mono ?_; rintro e w' ⟨rfl, k, rfl⟩))
  all_goals (go_ret; first | exact ⟨by simp [*], tb_op HW.out VA.out VB.out⟩ | exact ⟨by simp [*], (tb_op HW.out VA.out VB.out).drewN _⟩)
set_option linter.unusedVariables false
set_option maxHeartbeats 1000000 in
theorem refEdge_t {B K : Nat} (w : World) (x y : Edg) (sa sb : Option Addr) (la lb ca cb : Nat) (hla : la ≤ 1099511627776) (ha : RInts w sa la x.args) (hb : RInts w sb lb y.args) (hw : WT B K w) (vA : SlV B K w 3 1 (.slice sa la ca) la) (vB : SlV B K w 3 1 (.slice sb lb cb) lb) :
    Calls Tryz.prog 23 #[.agg #[.int .i64 x.block, .slice sa la ca], .agg #[.int .i64 y.block, .slice sb lb cb]] w (SaysT B K (decide (x = y)) w) := by
  obtain ⟨bx, xs⟩ := x
  obtain ⟨by_, ys⟩ := y
  simp only at ha hb ⊢
  have HA := Lib.hid ha; have HB := Lib.hid hb; have HW := Lib.hid hw; have VA := Lib.hid vA; have VB := Lib.hid vB
  clear ha hb hw vA vB
  go_enter Tryz.func23, Tryz.ntmps23
  go_wp2_with (first | (go_at_call 21; refine (ints_any _ _ _ _ _ _ _ hla xs ys (HA.out.below (bel_two _ _ _)) (HB.out.below (bel_two _ _ _))).mono ?_; rintro e w' ⟨rfl, k, rfl⟩))
  all_goals (go_ret; first | exact ⟨by simp [*], tb_edge HW.out VA.out VB.out⟩ | exact ⟨by simp [*], (tb_edge HW.out VA.out VB.out).drewN _⟩)
set_option maxHeartbeats 1000000 in
theorem refOp_t {B K : Nat} (w : World) (x y : Opr) (sa sb : Option Addr) (la lb ca cb : Nat) (hla : la ≤ 1099511627776) (ha : RInts w sa la x.args) (hb : RInts w sb lb y.args) (hw : WT B K w) (vA : SlV B K w 3 1 (.slice sa la ca) la) (vB : SlV B K w 3 1 (.slice sb lb cb) lb) :
    Calls Tryz.prog 22 #[.agg #[.int .i64 x.code, .int .i64 x.res, .int .i64 x.a, .int .i64 x.b, .int .u16 x.n, .slice sa la ca], .agg #[.int .i64 y.code, .int .i64 y.res, .int .i64 y.a, .int .i64 y.b, .int .u16 y.n, .slice sb lb cb]] w (SaysT B K (decide (x = y)) w) := by
  obtain ⟨x1, x2, x3, x4, x5, xs⟩ := x
  obtain ⟨y1, y2, y3, y4, y5, ys⟩ := y
  simp only at ha hb ⊢
  have HA := Lib.hid ha; have HB := Lib.hid hb; have HW := Lib.hid hw; have VA := Lib.hid vA; have VB := Lib.hid vB
  clear ha hb hw vA vB
  by_cases hxy : xs = ys
  · have H := Lib.hid hxy; clear hxy
    go_enter Tryz.func22, Tryz.ntmps22
    go_wp2_with (first | (go_at_call 21; refine ((ints_any _ _ _ _ _ _ _ hla xs ys (HA.out.below (bel_two _ _ _)) (HB.out.below (bel_two _ _ _))).mono (Says.at (b' := true) (by simp [H.out]))).mono ?_; rintro e w' ⟨rfl, k, rfl⟩))
    all_goals (go_ret; refine ⟨?_, (tb_op HW.out VA.out VB.out).drewN _⟩; first | (simp [*, H.out]; done) | (simp [*, H.out]; rw [Bool.eq_iff_iff]; simp))
  · have H := Lib.hid hxy; clear hxy
    go_enter Tryz.func22, Tryz.ntmps22
    go_wp2_with (first | (go_at_call 21; refine ((ints_any _ _ _ _ _ _ _ hla xs ys (HA.out.below (bel_two _ _ _)) (HB.out.below (bel_two _ _ _))).mono (Says.at (b' := false) (by simp [H.out]))).mono ?_; rintro e w' ⟨rfl, k, rfl⟩))
    all_goals (go_ret; refine ⟨?_, (tb_op HW.out VA.out VB.out).drewN _⟩; first | (simp [*, H.out]; done) | (simp [*, H.out]; rw [Bool.eq_iff_iff]; simp))
end Go.Proofs.YtahljbkaemhpcaaGreat
