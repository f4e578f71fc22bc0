import Derived.Test.YtahljbkaemhpcaaGreatW3
import Derived.StillTailTactics
import Derived.Deep.RegionHeld3
namespace Go.Proofs.YtahljbkaemhpcaaGreat
open Go.RowKit
set_option linter.unusedVariables false
/-- The j-th of the edges that a slice holds. -/
def REdgs (w : World) (sa : Option Addr) (len : Nat) (xs : List Edg) : Prop := len = xs.length ∧ ∀ j x, xs[j]? = some x → ∃ (g o : Nat) (sb : Option Addr) (lb cb : Nat), sa = some ⟨g, o, none⟩ ∧ w.cell? ⟨g, o + j * 2, none⟩ = some (.int .i64 x.block) ∧
  w.cell? ⟨g, o + j * 2 + 1, none⟩ = some (.slice sb lb cb) ∧ lb ≤ 1099511627776 ∧ RInts w sb lb x.args
theorem REdgs.below {w w' : World} {sa : Option Addr} {len : Nat} {xs : List Edg} (h : REdgs w sa len xs) (hb : Below w.heap.size w w') : REdgs w' sa len xs :=
  ⟨h.1, fun j z hj => by obtain ⟨g, o, sb, lb, cb, e, h1, h2, h3, h4⟩ := h.2 j z hj; exact ⟨g, o, sb, lb, cb, e, bel_some hb h1, bel_some hb h2, h3, h4.below hb⟩⟩
theorem neq_at' {α : Type} {xs ys : List α} {k : Nat} {x y : α} (hx : xs[k]? = some x) (hy : ys[k]? = some y) (h : ¬ x = y) : ¬ xs = ys := by
  rintro rfl
  rw [hx] at hy
  injection hy with e
  exact h e
theorem take_next' {α : Type} {xs ys : List α} {k : Nat} {x y : α} (h : xs.take k = ys.take k) (hx : xs[k]? = some x) (hy : ys[k]? = some y) (e : x = y) : xs.take (k + 1) = ys.take (k + 1) := by
  rw [List.take_add_one, List.take_add_one, h, hx, hy, e]
theorem cells49 : Tryz.prog.cellsOf 49 = 2 := by kernel_rfl
set_option maxHeartbeats 400000 in
theorem eqEdge_round (w : World) (sa sb : Option Addr) (len ca cb : Nat) (hlen : len ≤ 1099511627776) (xs ys : List Edg) (ha : REdgs w sa len xs) (hb : REdgs w sb len ys) :
    Calls Tryz.prog 45 #[.slice sa len ca, .slice sb len cb, .func (.func 46) #[] #[]] w (SaysB (decide (xs = ys)) w) := by
  go_enter Tryz.func45, Tryz.ntmps45
  go_wp2
  go_loopw [15] (fun i wr => ∃ k : Nat, i = .int .i64 k ∧ k ≤ len ∧ Below w.heap.size w wr ∧ xs.take k = ys.take k) (fun i _ => len - (intOf i).toNat)
  case atStart => exact ⟨0, rfl, by omega, Below.refl _ _, rfl⟩
  case round =>
    obtain ⟨k, rfl, hk, hdr, heq⟩ := hrel
    replace ha := ha.below hdr
    replace hb := hb.below hdr
    by_cases hlt : k < len
    · obtain ⟨x, hx⟩ : ∃ x, xs[k]? = some x := ⟨_, List.getElem?_eq_getElem (by have := ha.1; omega)⟩
      obtain ⟨y, hy⟩ : ∃ y, ys[k]? = some y := ⟨_, List.getElem?_eq_getElem (by have := hb.1; omega)⟩
      obtain ⟨ga, oa, s1, l1, c1, rfl, hca, hca2, hl1, hr1⟩ := ha.2 k x hx
      obtain ⟨gb, ob, s2, l2, c2, rfl, hcb, hcb2, hl2, hr2⟩ := hb.2 k y hy
      have hlt' : (k : Int) < (len : Int) := by omega
      have hk0 : (0 : Int) ≤ (k : Int) := by omega
      have HA := Lib.hid ha; have HB := Lib.hid hb; have HX := Lib.hid hx; have HY := Lib.hid hy; have HE := Lib.hid heq; have H1 := Lib.hid hr1; have H2 := Lib.hid hr2
      clear ha hb hx hy heq hr1 hr2
      go_wp2
      go_region_held3 (fun w' => Below wr.heap.size wr w' ∧ w'.cell? ⟨ga, oa + k * 2, none⟩ = some (.int .i64 x.block) ∧ w'.cell? ⟨ga, oa + k * 2 + 1, none⟩ = some (.slice s1 l1 c1) ∧ w'.cell? ⟨gb, ob + k * 2, none⟩ = some (.int .i64 y.block) ∧ w'.cell? ⟨gb, ob + k * 2 + 1, none⟩ = some (.slice s2 l2 c2))
        (first | exact ⟨(Below.refl _ _).drew, hca, hca2, hcb, hcb2⟩ | go_keep | exact ⟨hS.1.trans (hb'.mono hS.1.size), bel_some hb' hS.2.1, bel_some hb' hS.2.2.1, bel_some hb' hS.2.2.2.1, bel_some hb' hS.2.2.2.2⟩)
        (first | (go_at_call 46; have hS := ‹Below wr.heap.size wr _ ∧ _ ∧ _ ∧ _ ∧ _›; refine (sameEdge_any _ x y _ _ _ _ _ _ hl1 (H1.out.below hS.1) (H2.out.below hS.1)).mono ?_; rintro e w' ⟨rfl, hb'⟩))
      go_wp2
      · go_ret
        have hH := ‹Below wr.heap.size wr w' ∧ _ ∧ _ ∧ _ ∧ _›
        have hne : (!decide (x = y)) = true := by assumption
        exact ⟨by rw [decide_eq_false (neq_at' HX.out HY.out (by simpa using hne))]; rfl, hdr.trans (hH.1.mono hdr.size)⟩
      · have hH := ‹Below wr.heap.size wr w' ∧ _ ∧ _ ∧ _ ∧ _›
        have hne : (!decide (x = y)) = false := by assumption
        exact ⟨⟨k + 1, by go_num, by omega, hdr.trans (hH.1.mono hdr.size), take_next' HE.out HX.out HY.out (by simpa using hne)⟩, by simp [intOf]; omega⟩
    · have hge : len ≤ k := by omega
      have hge' : (len : Int) ≤ (k : Int) := by omega
      have HA := Lib.hid ha; have HB := Lib.hid hb; have HE := Lib.hid heq
      clear ha hb heq
      go_wp2
      go_ret
      exact ⟨by rw [decide_eq_true (all_taken HE.out (by have := HA.out.1; omega) (by have := HB.out.1; omega))]; rfl, hdr⟩
/-- An operation, as data. -/
structure Opr where
  code : Int
  res : Int
  a : Int
  b : Int
  n : Int
  args : List Int
  deriving DecidableEq
set_option maxHeartbeats 1000000 in
theorem sameOp_any (w : World) (x y : Opr) (sa sb : Option Addr) (la lb ca cb : Nat) (hla : la ≤ 1099511627776) (ha : RInts w sa la x.args) (hb : RInts w sb lb y.args) :
    Calls Tryz.prog 44 #[.agg #[.int .i64 x.code, .int .i64 x.res, .int .i64 x.a, .int .i64 x.b, .int .u16 x.n, .slice sa la ca], .agg #[.int .i64 y.code, .int .i64 y.res, .int .i64 y.a, .int .i64 y.b, .int .u16 y.n, .slice sb lb cb]] w (SaysB (decide (x = y)) w) := by
  obtain ⟨x1, x2, x3, x4, x5, xs⟩ := x
  obtain ⟨y1, y2, y3, y4, y5, ys⟩ := y
  simp only at ha hb ⊢
  have HA := Lib.hid ha; have HB := Lib.hid hb
  clear ha hb
  go_enter Tryz.func44, Tryz.ntmps44
  go_wp2_with (first | (go_at_call 41; refine (eqInt_any _ _ _ _ _ _ _ hla xs ys (HA.out.below (bel_two _ _ _)) (HB.out.below (bel_two _ _ _))).mono ?_; rintro e w' ⟨rfl, k, rfl⟩))
  all_goals (go_ret; first | exact ⟨by simp [*], bel_two _ _ _⟩ | exact ⟨by simp [*], bel_drewN (bel_two _ _ _) _⟩)
end Go.Proofs.YtahljbkaemhpcaaGreat
