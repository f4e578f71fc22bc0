import Derived.Test.YtahljbkaemhpcaaGreatW5
namespace Go.Proofs.YtahljbkaemhpcaaGreat
open Go.RowKit
set_option linter.unusedVariables false
theorem cells40 : Tryz.prog.cellsOf 40 = 6 := by kernel_rfl
set_option maxHeartbeats 400000 in
theorem eqEdge_other (w : World) (sa sb : Option Addr) (la lb ca cb : Nat) (h : la ≠ lb) (xs ys : List Edg) (ha : la = xs.length) (hb : lb = ys.length) :
    Calls Tryz.prog 45 #[.slice sa la ca, .slice sb lb cb, .func (.func 46) #[] #[]] w (SaysB (decide (xs = ys)) w) := by
  have hd : ((la : Int) != (lb : Int)) = true := by simp; omega
  have hne : ¬ xs = ys := by rintro rfl; omega
  have H := Lib.hid h; have HA := Lib.hid ha; have HB := Lib.hid hb
  clear h ha hb
  go_enter Tryz.func45, Tryz.ntmps45
  go_wp2
  go_ret
  exact ⟨by rw [decide_eq_false hne]; rfl, Below.refl _ _⟩
theorem eqEdge_any (w : World) (sa sb : Option Addr) (la lb ca cb : Nat) (hla : la ≤ 1099511627776) (xs ys : List Edg) (ha : REdgs w sa la xs) (hb : REdgs w sb lb ys) :
    Calls Tryz.prog 45 #[.slice sa la ca, .slice sb lb cb, .func (.func 46) #[] #[]] w (SaysB (decide (xs = ys)) w) := by
  by_cases h : la = lb
  · subst h; exact eqEdge_round w sa sb la ca cb hla xs ys ha hb
  · exact eqEdge_other w sa sb la lb ca cb h xs ys ha.1 hb.1
/-- A slice of them that reads as a list. -/
def ROprs (w : World) (sa : Option Addr) (len : Nat) (xs : List Opr) : Prop := len = xs.length ∧ ∀ j x, xs[j]? = some x → ∃ (g o : Nat) (s0 : Option Addr) (l0 c0 : Nat), sa = some ⟨g, o, none⟩ ∧
  w.cell? ⟨g, o + j * 6, none⟩ = some (.int .i64 x.code) ∧ w.cell? ⟨g, o + j * 6 + 1, none⟩ = some (.int .i64 x.res) ∧ w.cell? ⟨g, o + j * 6 + 2, none⟩ = some (.int .i64 x.a) ∧ w.cell? ⟨g, o + j * 6 + 3, none⟩ = some (.int .i64 x.b) ∧ w.cell? ⟨g, o + j * 6 + 4, none⟩ = some (.int .u16 x.n) ∧ w.cell? ⟨g, o + j * 6 + 5, none⟩ = some (.slice s0 l0 c0) ∧ l0 ≤ 1099511627776 ∧ RInts w s0 l0 x.args
theorem ROprs.below {w w' : World} {sa : Option Addr} {len : Nat} {xs : List Opr} (h : ROprs w sa len xs) (hb : Below w.heap.size w w') : ROprs w' sa len xs :=
  ⟨h.1, fun j z hj => by
    obtain ⟨g, o, s0, l0, c0, e, h0, h1, h2, h3, h4, h5, b0, r0⟩ := h.2 j z hj
    exact ⟨g, o, s0, l0, c0, e, bel_some hb h0, bel_some hb h1, bel_some hb h2, bel_some hb h3, bel_some hb h4, bel_some hb h5, b0, r0.below hb⟩⟩
set_option maxRecDepth 100000 in
set_option maxHeartbeats 4000000 in
theorem eqOp_round (w : World) (sa sb : Option Addr) (len ca cb : Nat) (hlen : len ≤ 1099511627776) (xs ys : List Opr) (ha : ROprs w sa len xs) (hb : ROprs w sb len ys) :
    Calls Tryz.prog 43 #[.slice sa len ca, .slice sb len cb, .func (.func 44) #[] #[]] w (SaysB (decide (xs = ys)) w) := by
  go_enter Tryz.func43, Tryz.ntmps43
  go_wp2
  go_loopw [15] (fun i wr => ∃ k : Nat, i = .int .i64 k ∧ k ≤ len ∧ Below w.heap.size w wr ∧ xs.take k = ys.take k) (fun i _ => len - (intOf i).toNat)
  case atStart => exact ⟨0, rfl, by omega, Below.refl _ _, rfl⟩
  case round =>
    obtain ⟨k, rfl, hk, hdr, heq⟩ := hrel
    replace ha := ha.below hdr
    replace hb := hb.below hdr
    by_cases hlt : k < len
    · obtain ⟨x, hx⟩ : ∃ x, xs[k]? = some x := ⟨_, List.getElem?_eq_getElem (by have := ha.1; omega)⟩
      obtain ⟨y, hy⟩ : ∃ y, ys[k]? = some y := ⟨_, List.getElem?_eq_getElem (by have := hb.1; omega)⟩
      obtain ⟨ga, oa, as0, al0, ac0, rfl, ha0, ha1, ha2, ha3, ha4, ha5, ab0, ar0⟩ := ha.2 k x hx
      obtain ⟨gb, ob, bs0, bl0, bc0, rfl, hb0, hb1, hb2, hb3, hb4, hb5, bb0, br0⟩ := hb.2 k y hy
      have hlt' : (k : Int) < (len : Int) := by omega
      have hk0 : (0 : Int) ≤ (k : Int) := by omega
      have HA := Lib.hid ha; have HB := Lib.hid hb; have HX := Lib.hid hx; have HY := Lib.hid hy; have HE := Lib.hid heq; have aR0 := Lib.hid ar0; have bR0 := Lib.hid br0
      clear ha hb hx hy heq ar0 br0
      go_wp2
      go_region_held3 (fun w' => Below wr.heap.size wr w' ∧ w'.cell? ⟨ga, oa + k * 6, none⟩ = some (.int .i64 x.code) ∧ w'.cell? ⟨ga, oa + k * 6 + 1, none⟩ = some (.int .i64 x.res) ∧ w'.cell? ⟨ga, oa + k * 6 + 2, none⟩ = some (.int .i64 x.a) ∧ w'.cell? ⟨ga, oa + k * 6 + 3, none⟩ = some (.int .i64 x.b) ∧ w'.cell? ⟨ga, oa + k * 6 + 4, none⟩ = some (.int .u16 x.n) ∧ w'.cell? ⟨ga, oa + k * 6 + 5, none⟩ = some (.slice as0 al0 ac0) ∧ w'.cell? ⟨gb, ob + k * 6, none⟩ = some (.int .i64 y.code) ∧ w'.cell? ⟨gb, ob + k * 6 + 1, none⟩ = some (.int .i64 y.res) ∧ w'.cell? ⟨gb, ob + k * 6 + 2, none⟩ = some (.int .i64 y.a) ∧ w'.cell? ⟨gb, ob + k * 6 + 3, none⟩ = some (.int .i64 y.b) ∧ w'.cell? ⟨gb, ob + k * 6 + 4, none⟩ = some (.int .u16 y.n) ∧ w'.cell? ⟨gb, ob + k * 6 + 5, none⟩ = some (.slice bs0 bl0 bc0))
        (first | exact ⟨(Below.refl _ _).drew, ha0, ha1, ha2, ha3, ha4, ha5, hb0, hb1, hb2, hb3, hb4, hb5⟩ | go_keep | exact ⟨hS.1.trans (hb'.mono hS.1.size), bel_some hb' hS.2.1, bel_some hb' hS.2.2.1, bel_some hb' hS.2.2.2.1, bel_some hb' hS.2.2.2.2.1, bel_some hb' hS.2.2.2.2.2.1, bel_some hb' hS.2.2.2.2.2.2.1, bel_some hb' hS.2.2.2.2.2.2.2.1, bel_some hb' hS.2.2.2.2.2.2.2.2.1, bel_some hb' hS.2.2.2.2.2.2.2.2.2.1, bel_some hb' hS.2.2.2.2.2.2.2.2.2.2.1, bel_some hb' hS.2.2.2.2.2.2.2.2.2.2.2.1, bel_some hb' hS.2.2.2.2.2.2.2.2.2.2.2.2⟩)
        (first | (go_at_call 44; have hS := ‹Below wr.heap.size wr _ ∧ _ ∧ _ ∧ _ ∧ _ ∧ _ ∧ _ ∧ _ ∧ _ ∧ _ ∧ _ ∧ _ ∧ _›; refine (sameOp_any _ x y _ _ _ _ _ _ ab0 (aR0.out.below hS.1) (bR0.out.below hS.1)).mono ?_; rintro e w' ⟨rfl, hb'⟩))
      go_wp2
      · go_ret
        have hH := ‹Below wr.heap.size wr w' ∧ _ ∧ _ ∧ _ ∧ _ ∧ _ ∧ _ ∧ _ ∧ _ ∧ _ ∧ _ ∧ _ ∧ _›
        have hne : (!decide (x = y)) = true := by assumption
        exact ⟨by rw [decide_eq_false (neq_at' HX.out HY.out (by simpa using hne))]; rfl, hdr.trans (hH.1.mono hdr.size)⟩
      · have hH := ‹Below wr.heap.size wr w' ∧ _ ∧ _ ∧ _ ∧ _ ∧ _ ∧ _ ∧ _ ∧ _ ∧ _ ∧ _ ∧ _ ∧ _›
        have hne : (!decide (x = y)) = false := by assumption
        exact ⟨⟨k + 1, by go_num, by omega, hdr.trans (hH.1.mono hdr.size), take_next' HE.out HX.out HY.out (by simpa using hne)⟩, by simp [intOf]; omega⟩
    · have hge : len ≤ k := by omega
      have hge' : (len : Int) ≤ (k : Int) := by omega
      have HA := Lib.hid ha; have HB := Lib.hid hb; have HE := Lib.hid heq
      clear ha hb heq
      go_wp2
      go_ret
      exact ⟨by rw [decide_eq_true (all_taken HE.out (by have := HA.out.1; omega) (by have := HB.out.1; omega))]; rfl, hdr⟩
set_option maxHeartbeats 400000 in
theorem eqOp_other (w : World) (sa sb : Option Addr) (la lb ca cb : Nat) (h : la ≠ lb) (xs ys : List Opr) (ha : la = xs.length) (hb : lb = ys.length) :
    Calls Tryz.prog 43 #[.slice sa la ca, .slice sb lb cb, .func (.func 44) #[] #[]] w (SaysB (decide (xs = ys)) w) := by
  have hd : ((la : Int) != (lb : Int)) = true := by simp; omega
  have hne : ¬ xs = ys := by rintro rfl; omega
  have H := Lib.hid h; have HA := Lib.hid ha; have HB := Lib.hid hb
  clear h ha hb
  go_enter Tryz.func43, Tryz.ntmps43
  go_wp2
  go_ret
  exact ⟨by rw [decide_eq_false hne]; rfl, Below.refl _ _⟩
theorem eqOp_any (w : World) (sa sb : Option Addr) (la lb ca cb : Nat) (hla : la ≤ 1099511627776) (xs ys : List Opr) (ha : ROprs w sa la xs) (hb : ROprs w sb lb ys) :
    Calls Tryz.prog 43 #[.slice sa la ca, .slice sb lb cb, .func (.func 44) #[] #[]] w (SaysB (decide (xs = ys)) w) := by
  by_cases h : la = lb
  · subst h; exact eqOp_round w sa sb la ca cb hla xs ys ha hb
  · exact eqOp_other w sa sb la lb ca cb h xs ys ha.1 hb.1
end Go.Proofs.YtahljbkaemhpcaaGreat
