/- The comparisons keep what is well typed: rows of edges, rows of operations. -/
import Derived.Test.YtahljbkaemhpcaaGreatV3
namespace Go.Proofs.YtahljbkaemhpcaaGreat
open Go.RowKit
set_option linter.unusedVariables false
set_option maxHeartbeats 400000 in
theorem eqEdge_tr {B K : Nat} (w : World) (sa sb : Option Addr) (len ca cb : Nat) (hlen : len ≤ 1099511627776) (xs ys : List Edg) (ha : REdgs w sa len xs) (hb : REdgs w sb len ys) (hw : WT B K w) (hKb : K ≤ 1099511627776) (vA : SlV B K w 49 2 (.slice sa len ca) len) (vB : SlV B K w 49 2 (.slice sb len cb) len) :
    Calls Tryz.prog 45 #[.slice sa len ca, .slice sb len cb, .func (.func 46) #[] #[]] w (SaysT B K (decide (xs = ys)) w) := by
  have HW := Lib.hid hw; have VA := Lib.hid vA; have VB := Lib.hid vB; have HKB : Hid (K ≤ 1099511627776) := hKb
  clear hw vA vB hKb
  go_enter Tryz.func45, Tryz.ntmps45
  go_wp2
  go_loopw [15] (fun i wr => ∃ k : Nat, i = .int .i64 k ∧ k ≤ len ∧ TB B K w wr ∧ xs.take k = ys.take k) (fun i _ => len - (intOf i).toNat)
  case atStart => exact ⟨0, rfl, by omega, TB.refl HW.out, rfl⟩
  case round =>
    obtain ⟨k, rfl, hk, hdr, heq⟩ := hrel
    replace ha := ha.below hdr.1
    replace hb := hb.below hdr.1
    have uA := hdr.sl VA.out
    have uB := hdr.sl VB.out
    by_cases hlt : k < len
    · obtain ⟨x, hx⟩ : ∃ x, xs[k]? = some x := ⟨_, List.getElem?_eq_getElem (by have := ha.1; omega)⟩
      obtain ⟨y, hy⟩ : ∃ y, ys[k]? = some y := ⟨_, List.getElem?_eq_getElem (by have := hb.1; omega)⟩
      obtain ⟨ga, s1, l1, c1, rfl, lga, hca, hca2, hl1, v1, hr1⟩ := srcEdg hdr.2 uA ha hx
      obtain ⟨gb, s2, l2, c2, rfl, lgb, hcb, hcb2, hl2, v2, hr2⟩ := srcEdg hdr.2 uB hb hy
      have hlt' : (k : Int) < (len : Int) := by omega
      have hk0 : (0 : Int) ≤ (k : Int) := by omega
      have HA := Lib.hid ha; have HB := Lib.hid hb; have HX := Lib.hid hx; have HY := Lib.hid hy; have HE := Lib.hid heq; have HD := Lib.hid hdr; have V1 := Lib.hid v1; have V2 := Lib.hid v2;  have H1 := Lib.hid hr1; have H2 := Lib.hid hr2
      clear uA uB hdr v1 v2 ha hb hx hy heq hr1 hr2
      go_wp2
      go_region_held3 (fun w' => TB B K wr w' ∧ w'.cell? ⟨ga, k * 2, none⟩ = some (.int .i64 x.block) ∧ w'.cell? ⟨ga, k * 2 + 1, none⟩ = some (.slice s1 l1 c1) ∧ w'.cell? ⟨gb, k * 2, none⟩ = some (.int .i64 y.block) ∧ w'.cell? ⟨gb, k * 2 + 1, none⟩ = some (.slice s2 l2 c2))
        (first | exact ⟨(TB.refl HD.out.2).drew, hca, hca2, hcb, hcb2⟩ | go_keep | exact ⟨hS.1.trans hb', bel_some hb'.1 hS.2.1, bel_some hb'.1 hS.2.2.1, bel_some hb'.1 hS.2.2.2.1, bel_some hb'.1 hS.2.2.2.2⟩)
        (first | (go_at_call 46; have hS := ‹TB B K wr _ ∧ _ ∧ _ ∧ _ ∧ _›; refine (sameEdge_t _ x y _ _ _ _ _ _ hl1 (H1.out.below hS.1.1) (H2.out.below hS.1.1) hS.1.2 (hS.1.sl V1.out) (hS.1.sl V2.out)).mono ?_; rintro e w' ⟨rfl, hb'⟩))
      go_wp2
      · go_ret
        have hH := ‹TB B K wr w' ∧ _ ∧ _ ∧ _ ∧ _›
        have hne : (!decide (x = y)) = true := by assumption
        exact ⟨by rw [decide_eq_false (neq_at' HX.out HY.out (by simpa using hne))]; rfl, HD.out.trans hH.1⟩
      · have hH := ‹TB B K wr w' ∧ _ ∧ _ ∧ _ ∧ _›
        have hne : (!decide (x = y)) = false := by assumption
        exact ⟨⟨k + 1, by go_num, by omega, HD.out.trans hH.1, take_next' HE.out HX.out HY.out (by simpa using hne)⟩, by simp [intOf]; omega⟩
    · have hge : len ≤ k := by omega
      have hge' : (len : Int) ≤ (k : Int) := by omega
      have HA := Lib.hid ha; have HB := Lib.hid hb; have HE := Lib.hid heq; have HD := Lib.hid hdr
      clear uA uB hdr ha hb heq
      go_wp2
      go_ret
      exact ⟨by rw [decide_eq_true (all_taken HE.out (by have := HA.out.1; omega) (by have := HB.out.1; omega))]; rfl, HD.out⟩
set_option maxHeartbeats 400000 in
theorem eqEdge_to {B K : Nat} (w : World) (sa sb : Option Addr) (la lb ca cb : Nat) (h : la ≠ lb) (xs ys : List Edg) (ha : la = xs.length) (hb : lb = ys.length) (hw : WT B K w) :
    Calls Tryz.prog 45 #[.slice sa la ca, .slice sb lb cb, .func (.func 46) #[] #[]] w (SaysT B K (decide (xs = ys)) w) := by
  have hd : ((la : Int) != (lb : Int)) = true := by simp; omega
  have hne : ¬ xs = ys := by rintro rfl; omega
  have H := Lib.hid h; have HA := Lib.hid ha; have HB := Lib.hid hb; have HW := Lib.hid hw
  clear h ha hb hw
  go_enter Tryz.func45, Tryz.ntmps45
  go_wp2
  go_ret
  exact ⟨by rw [decide_eq_false hne]; rfl, TB.refl HW.out⟩
theorem eqEdge_t {B K : Nat} (w : World) (sa sb : Option Addr) (la lb ca cb : Nat) (hla : la ≤ 1099511627776) (xs ys : List Edg) (ha : REdgs w sa la xs) (hb : REdgs w sb lb ys) (hw : WT B K w) (hKb : K ≤ 1099511627776) (vA : SlV B K w 49 2 (.slice sa la ca) la) (vB : SlV B K w 49 2 (.slice sb lb cb) lb) :
    Calls Tryz.prog 45 #[.slice sa la ca, .slice sb lb cb, .func (.func 46) #[] #[]] w (SaysT B K (decide (xs = ys)) w) := by
  by_cases h : la = lb
  · subst h; exact eqEdge_tr w sa sb la ca cb hla xs ys ha hb hw hKb vA vB
  · exact eqEdge_to w sa sb la lb ca cb h xs ys ha.1 hb.1 hw
set_option maxRecDepth 100000 in
set_option maxHeartbeats 4000000 in
theorem eqOp_tr {B K : Nat} (w : World) (sa sb : Option Addr) (len ca cb : Nat) (hlen : len ≤ 1099511627776) (xs ys : List Opr) (ha : ROprs w sa len xs) (hb : ROprs w sb len ys) (hw : WT B K w) (hKb : K ≤ 1099511627776) (vA : SlV B K w 40 6 (.slice sa len ca) len) (vB : SlV B K w 40 6 (.slice sb len cb) len) :
    Calls Tryz.prog 43 #[.slice sa len ca, .slice sb len cb, .func (.func 44) #[] #[]] w (SaysT B K (decide (xs = ys)) w) := by
  have HW := Lib.hid hw; have VA := Lib.hid vA; have VB := Lib.hid vB; have HKB : Hid (K ≤ 1099511627776) := hKb
  clear hw vA vB hKb
  go_enter Tryz.func43, Tryz.ntmps43
  go_wp2
  go_loopw [15] (fun i wr => ∃ k : Nat, i = .int .i64 k ∧ k ≤ len ∧ TB B K w wr ∧ xs.take k = ys.take k) (fun i _ => len - (intOf i).toNat)
  case atStart => exact ⟨0, rfl, by omega, TB.refl HW.out, rfl⟩
  case round =>
    obtain ⟨k, rfl, hk, hdr, heq⟩ := hrel
    replace ha := ha.below hdr.1
    replace hb := hb.below hdr.1
    have uA := hdr.sl VA.out
    have uB := hdr.sl VB.out
    by_cases hlt : k < len
    · obtain ⟨x, hx⟩ : ∃ x, xs[k]? = some x := ⟨_, List.getElem?_eq_getElem (by have := ha.1; omega)⟩
      obtain ⟨y, hy⟩ : ∃ y, ys[k]? = some y := ⟨_, List.getElem?_eq_getElem (by have := hb.1; omega)⟩
      obtain ⟨ga, as0, al0, ac0, rfl, lga, ha0, ha1, ha2, ha3, ha4, ha5, ab0, v1, ar0⟩ := srcOp hdr.2 uA ha hx
      obtain ⟨gb, bs0, bl0, bc0, rfl, lgb, hb0, hb1, hb2, hb3, hb4, hb5, bb0, v2, br0⟩ := srcOp hdr.2 uB hb hy
      have hlt' : (k : Int) < (len : Int) := by omega
      have hk0 : (0 : Int) ≤ (k : Int) := by omega
      have HA := Lib.hid ha; have HB := Lib.hid hb; have HX := Lib.hid hx; have HY := Lib.hid hy; have HE := Lib.hid heq; have HD := Lib.hid hdr; have V1 := Lib.hid v1; have V2 := Lib.hid v2;  have aR0 := Lib.hid ar0; have bR0 := Lib.hid br0
      clear uA uB hdr v1 v2 ha hb hx hy heq ar0 br0
      go_wp2
      go_region_held3 (fun w' => TB B K wr w' ∧ w'.cell? ⟨ga, k * 6, none⟩ = some (.int .i64 x.code) ∧ w'.cell? ⟨ga, k * 6 + 1, none⟩ = some (.int .i64 x.res) ∧ w'.cell? ⟨ga, k * 6 + 2, none⟩ = some (.int .i64 x.a) ∧ w'.cell? ⟨ga, k * 6 + 3, none⟩ = some (.int .i64 x.b) ∧ w'.cell? ⟨ga, k * 6 + 4, none⟩ = some (.int .u16 x.n) ∧ w'.cell? ⟨ga, k * 6 + 5, none⟩ = some (.slice as0 al0 ac0) ∧ w'.cell? ⟨gb, k * 6, none⟩ = some (.int .i64 y.code) ∧ w'.cell? ⟨gb, k * 6 + 1, none⟩ = some (.int .i64 y.res) ∧ w'.cell? ⟨gb, k * 6 + 2, none⟩ = some (.int .i64 y.a) ∧ w'.cell? ⟨gb, k * 6 + 3, none⟩ = some (.int .i64 y.b) ∧ w'.cell? ⟨gb, k * 6 + 4, none⟩ = some (.int .u16 y.n) ∧ w'.cell? ⟨gb, k * 6 + 5, none⟩ = some (.slice bs0 bl0 bc0))
        (first | exact ⟨(TB.refl HD.out.2).drew, ha0, ha1, ha2, ha3, ha4, ha5, hb0, hb1, hb2, hb3, hb4, hb5⟩ | go_keep | exact ⟨hS.1.trans hb', bel_some hb'.1 hS.2.1, bel_some hb'.1 hS.2.2.1, bel_some hb'.1 hS.2.2.2.1, bel_some hb'.1 hS.2.2.2.2.1, bel_some hb'.1 hS.2.2.2.2.2.1, bel_some hb'.1 hS.2.2.2.2.2.2.1, bel_some hb'.1 hS.2.2.2.2.2.2.2.1, bel_some hb'.1 hS.2.2.2.2.2.2.2.2.1, bel_some hb'.1 hS.2.2.2.2.2.2.2.2.2.1, bel_some hb'.1 hS.2.2.2.2.2.2.2.2.2.2.1, bel_some hb'.1 hS.2.2.2.2.2.2.2.2.2.2.2.1, bel_some hb'.1 hS.2.2.2.2.2.2.2.2.2.2.2.2⟩)
        (first | (go_at_call 44; have hS := ‹TB B K wr _ ∧ _ ∧ _ ∧ _ ∧ _ ∧ _ ∧ _ ∧ _ ∧ _ ∧ _ ∧ _ ∧ _ ∧ _›; refine (sameOp_t _ x y _ _ _ _ _ _ ab0 (aR0.out.below hS.1.1) (bR0.out.below hS.1.1) hS.1.2 (hS.1.sl V1.out) (hS.1.sl V2.out)).mono ?_; rintro e w' ⟨rfl, hb'⟩))
      go_wp2
      · go_ret
        have hH := ‹TB B K wr w' ∧ _ ∧ _ ∧ _ ∧ _ ∧ _ ∧ _ ∧ _ ∧ _ ∧ _ ∧ _ ∧ _ ∧ _›
        have hne : (!decide (x = y)) = true := by assumption
        exact ⟨by rw [decide_eq_false (neq_at' HX.out HY.out (by simpa using hne))]; rfl, HD.out.trans hH.1⟩
      · have hH := ‹TB B K wr w' ∧ _ ∧ _ ∧ _ ∧ _ ∧ _ ∧ _ ∧ _ ∧ _ ∧ _ ∧ _ ∧ _ ∧ _›
        have hne : (!decide (x = y)) = false := by assumption
        exact ⟨⟨k + 1, by go_num, by omega, HD.out.trans hH.1, take_next' HE.out HX.out HY.out (by simpa using hne)⟩, by simp [intOf]; omega⟩
    · have hge : len ≤ k := by omega
      have hge' : (len : Int) ≤ (k : Int) := by omega
      have HA := Lib.hid ha; have HB := Lib.hid hb; have HE := Lib.hid heq; have HD := Lib.hid hdr
      clear uA uB hdr ha hb heq
      go_wp2
      go_ret
      exact ⟨by rw [decide_eq_true (all_taken HE.out (by have := HA.out.1; omega) (by have := HB.out.1; omega))]; rfl, HD.out⟩
set_option maxHeartbeats 400000 in
theorem eqOp_to {B K : Nat} (w : World) (sa sb : Option Addr) (la lb ca cb : Nat) (h : la ≠ lb) (xs ys : List Opr) (ha : la = xs.length) (hb : lb = ys.length) (hw : WT B K w) :
    Calls Tryz.prog 43 #[.slice sa la ca, .slice sb lb cb, .func (.func 44) #[] #[]] w (SaysT B K (decide (xs = ys)) w) := by
  have hd : ((la : Int) != (lb : Int)) = true := by simp; omega
  have hne : ¬ xs = ys := by rintro rfl; omega
  have H := Lib.hid h; have HA := Lib.hid ha; have HB := Lib.hid hb; have HW := Lib.hid hw
  clear h ha hb hw
  go_enter Tryz.func43, Tryz.ntmps43
  go_wp2
  go_ret
  exact ⟨by rw [decide_eq_false hne]; rfl, TB.refl HW.out⟩
theorem eqOp_t {B K : Nat} (w : World) (sa sb : Option Addr) (la lb ca cb : Nat) (hla : la ≤ 1099511627776) (xs ys : List Opr) (ha : ROprs w sa la xs) (hb : ROprs w sb lb ys) (hw : WT B K w) (hKb : K ≤ 1099511627776) (vA : SlV B K w 40 6 (.slice sa la ca) la) (vB : SlV B K w 40 6 (.slice sb lb cb) lb) :
    Calls Tryz.prog 43 #[.slice sa la ca, .slice sb lb cb, .func (.func 44) #[] #[]] w (SaysT B K (decide (xs = ys)) w) := by
  by_cases h : la = lb
  · subst h; exact eqOp_tr w sa sb la ca cb hla xs ys ha hb hw hKb vA vB
  · exact eqOp_to w sa sb la lb ca cb h xs ys ha.1 hb.1 hw
end Go.Proofs.YtahljbkaemhpcaaGreat
