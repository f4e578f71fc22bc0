/- The comparisons keep what is well typed: blocks, functions. -/
import Derived.Test.YtahljbkaemhpcaaGreatV4
namespace Go.Proofs.YtahljbkaemhpcaaGreat
open Go.RowKit
set_option linter.unusedVariables false
set_option maxRecDepth 100000 in
set_option maxHeartbeats 4000000 in
theorem sameBlock_t {B K : Nat} (w : World) (x y : Blk) (s0 s1 s2 t0 t1 t2 : Option Addr) (l0 l1 l2 m0 m1 m2 c0 c1 c2 d0 d1 d2 : Nat) (h0 : l0 ≤ 1099511627776) (h1 : l1 ≤ 1099511627776) (h2 : l2 ≤ 1099511627776)
    (a0 : RInts w s0 l0 x.params) (a1 : ROprs w s1 l1 x.ops) (a2 : REdgs w s2 l2 x.to) (b0 : RInts w t0 m0 y.params) (b1 : ROprs w t1 m1 y.ops) (b2 : REdgs w t2 m2 y.to)
    (hw : WT B K w) (hKb : K ≤ 1099511627776) (v0 : SlV B K w 3 1 (.slice s0 l0 c0) l0) (v1 : SlV B K w 40 6 (.slice s1 l1 c1) l1) (v2 : SlV B K w 49 2 (.slice s2 l2 c2) l2) (u0 : SlV B K w 3 1 (.slice t0 m0 d0) m0) (u1 : SlV B K w 40 6 (.slice t1 m1 d1) m1) (u2 : SlV B K w 49 2 (.slice t2 m2 d2) m2) :
    Calls Tryz.prog 20 #[.agg #[.slice s0 l0 c0, .slice s1 l1 c1, .int .i64 x.kind, .int .i64 x.a, .slice s2 l2 c2], .agg #[.slice t0 m0 d0, .slice t1 m1 d1, .int .i64 y.kind, .int .i64 y.a, .slice t2 m2 d2]] w (SaysT B K (decide (x = y)) w) := by
  obtain ⟨x0, x1, x2, x3, x4⟩ := x
  obtain ⟨y0, y1, y2, y3, y4⟩ := y
  simp only at a0 a1 a2 b0 b1 b2 ⊢
  have A0 := Lib.hid a0; have A1 := Lib.hid a1; have A2 := Lib.hid a2; have B0 := Lib.hid b0; have B1 := Lib.hid b1; have B2 := Lib.hid b2
  have HT := Lib.hid (tb_blk (x2 := x2) (x3 := x3) (y2 := y2) (y3 := y3) hw v0 v1 v2 u0 u1 u2)
  have V1 := Lib.hid v1; have V2 := Lib.hid v2; have U1 := Lib.hid u1; have U2 := Lib.hid u2
  have HKB : Hid (K ≤ 1099511627776) := hKb
  clear a0 a1 a2 b0 b1 b2 hw v0 v1 v2 u0 u1 u2 hKb
  have hsz : w.heap.size < w.heap.size + 1 + 1 := by omega
  have hsz1 : w.heap.size + 1 < w.heap.size + 1 + 1 := by omega
  go_enter Tryz.func20, Tryz.ntmps20
  go_wp2_with (first
    | (go_at_call 41; refine (eqInt_any _ _ _ _ _ _ _ h0 x0 y0 (A0.out.below HT.out.1) (B0.out.below HT.out.1)).mono ?_; rintro e w' ⟨rfl, k, rfl⟩)
    | (go_at_call 43; refine (eqOp_t _ _ _ _ _ _ _ h1 x1 y1 (A1.out.below (HT.out.drewN _).1) (B1.out.below (HT.out.drewN _).1) (HT.out.drewN _).2 HKB.out ((HT.out.drewN _).sl V1.out) ((HT.out.drewN _).sl U1.out)).mono ?_; rintro e w1 ⟨rfl, hb1⟩; have hc1 := bcell hb1.1; simp at hc1; have HB1 := Lib.hid ((HT.out.drewN _).trans hb1))
    | (go_at_call 45; refine (eqEdge_t _ _ _ _ _ _ _ h2 x4 y4 (A2.out.below HB1.out.1) (B2.out.below HB1.out.1) HB1.out.2 HKB.out (HB1.out.sl V2.out) (HB1.out.sl U2.out)).mono ?_; rintro e w2 ⟨rfl, hb2⟩))
  all_goals (go_ret; refine ⟨?_, ?_⟩; focus (first | (simp [*]; done) | (simp [*]; rw [Bool.eq_iff_iff]; simp)))
  all_goals first
    | exact HB1.out.trans hb2
    | exact HB1.out
    | exact HT.out.drewN _
    | exact HT.out
set_option maxRecDepth 100000 in
set_option maxHeartbeats 4000000 in
theorem eqBlk_tr {B K : Nat} (w : World) (sa sb : Option Addr) (len ca cb : Nat) (hlen : len ≤ 1099511627776) (xs ys : List Blk) (ha : RBlks w sa len xs) (hb : RBlks w sb len ys) (hw : WT B K w) (hKb : K ≤ 1099511627776) (vA : SlV B K w 46 5 (.slice sa len ca) len) (vB : SlV B K w 46 5 (.slice sb len cb) len) :
    Calls Tryz.prog 19 #[.slice sa len ca, .slice sb len cb, .func (.func 20) #[] #[]] w (SaysT B K (decide (xs = ys)) w) := by
  have HW := Lib.hid hw; have VA := Lib.hid vA; have VB := Lib.hid vB; have HKB : Hid (K ≤ 1099511627776) := hKb
  clear hw vA vB hKb
  go_enter Tryz.func19, Tryz.ntmps19
  go_wp2
  go_loopw [15] (fun i wr => ∃ k : Nat, i = .int .i64 k ∧ k ≤ len ∧ TB B K w wr ∧ xs.take k = ys.take k) (fun i _ => len - (intOf i).toNat)
  case atStart => exact ⟨0, rfl, by omega, TB.refl HW.out, rfl⟩
  case round =>
    obtain ⟨k, rfl, hk, hdr, heq⟩ := hrel
    replace ha := ha.below hdr.1
    replace hb := hb.below hdr.1
    have uA := hdr.sl VA.out
    have uB := hdr.sl VB.out
    by_cases hlt : k < len
    · obtain ⟨x, hx⟩ : ∃ x, xs[k]? = some x := ⟨_, List.getElem?_eq_getElem (by have := ha.1; omega)⟩
      obtain ⟨y, hy⟩ : ∃ y, ys[k]? = some y := ⟨_, List.getElem?_eq_getElem (by have := hb.1; omega)⟩
      obtain ⟨ga, as0, al0, ac0, as1, al1, ac1, as2, al2, ac2, rfl, hBga, lga, ha0, ha1, ha2, ha3, ha4, v0, ar0, v1, ar1, v2, ar2⟩ := srcBlk hdr.2 uA ha hx
      have ab0 : al0 ≤ 1099511627776 := Nat.le_trans v0.1 HKB.out
      have ab1 : al1 ≤ 1099511627776 := Nat.le_trans v1.1 HKB.out
      have ab2 : al2 ≤ 1099511627776 := Nat.le_trans v2.1 HKB.out
      obtain ⟨gb, bs0, bl0, bc0, bs1, bl1, bc1, bs2, bl2, bc2, rfl, hBgb, lgb, hb0, hb1, hb2, hb3, hb4, u0, br0, u1, br1, u2, br2⟩ := srcBlk hdr.2 uB hb hy
      have hlt' : (k : Int) < (len : Int) := by omega
      have hk0 : (0 : Int) ≤ (k : Int) := by omega
      have HA := Lib.hid ha; have HB := Lib.hid hb; have HX := Lib.hid hx; have HY := Lib.hid hy; have HE := Lib.hid heq; have HD := Lib.hid hdr; have V0 := Lib.hid v0; have V1 := Lib.hid v1; have V2 := Lib.hid v2; have U0 := Lib.hid u0; have U1 := Lib.hid u1; have U2 := Lib.hid u2;  have aR0 := Lib.hid ar0; have aR1 := Lib.hid ar1; have aR2 := Lib.hid ar2; have bR0 := Lib.hid br0; have bR1 := Lib.hid br1; have bR2 := Lib.hid br2
      clear uA uB hdr v0 v1 v2 u0 u1 u2 ha hb hx hy heq ar0 ar1 ar2 br0 br1 br2
      go_wp2
      go_region_held3 (fun w' => TB B K wr w' ∧ w'.cell? ⟨ga, k * 5, none⟩ = some (.slice as0 al0 ac0) ∧ w'.cell? ⟨ga, k * 5 + 1, none⟩ = some (.slice as1 al1 ac1) ∧ w'.cell? ⟨ga, k * 5 + 2, none⟩ = some (.int .i64 x.kind) ∧ w'.cell? ⟨ga, k * 5 + 3, none⟩ = some (.int .i64 x.a) ∧ w'.cell? ⟨ga, k * 5 + 4, none⟩ = some (.slice as2 al2 ac2) ∧ w'.cell? ⟨gb, k * 5, none⟩ = some (.slice bs0 bl0 bc0) ∧ w'.cell? ⟨gb, k * 5 + 1, none⟩ = some (.slice bs1 bl1 bc1) ∧ w'.cell? ⟨gb, k * 5 + 2, none⟩ = some (.int .i64 y.kind) ∧ w'.cell? ⟨gb, k * 5 + 3, none⟩ = some (.int .i64 y.a) ∧ w'.cell? ⟨gb, k * 5 + 4, none⟩ = some (.slice bs2 bl2 bc2))
        (first | exact ⟨(TB.refl HD.out.2).drew, ha0, ha1, ha2, ha3, ha4, hb0, hb1, hb2, hb3, hb4⟩ | go_keep | exact ⟨hS.1.trans hb', bel_some hb'.1 hS.2.1, bel_some hb'.1 hS.2.2.1, bel_some hb'.1 hS.2.2.2.1, bel_some hb'.1 hS.2.2.2.2.1, bel_some hb'.1 hS.2.2.2.2.2.1, bel_some hb'.1 hS.2.2.2.2.2.2.1, bel_some hb'.1 hS.2.2.2.2.2.2.2.1, bel_some hb'.1 hS.2.2.2.2.2.2.2.2.1, bel_some hb'.1 hS.2.2.2.2.2.2.2.2.2.1, bel_some hb'.1 hS.2.2.2.2.2.2.2.2.2.2⟩)
        (first | (go_at_call 20; have hS := ‹TB B K wr _ ∧ _ ∧ _ ∧ _ ∧ _ ∧ _ ∧ _ ∧ _ ∧ _ ∧ _ ∧ _›; refine (sameBlock_t _ x y _ _ _ _ _ _ _ _ _ _ _ _ _ _ _ _ _ _ ab0 ab1 ab2 (aR0.out.below hS.1.1) (aR1.out.below hS.1.1) (aR2.out.below hS.1.1) (bR0.out.below hS.1.1) (bR1.out.below hS.1.1) (bR2.out.below hS.1.1) hS.1.2 HKB.out (hS.1.sl V0.out) (hS.1.sl V1.out) (hS.1.sl V2.out) (hS.1.sl U0.out) (hS.1.sl U1.out) (hS.1.sl U2.out)).mono ?_; rintro e w' ⟨rfl, hb'⟩))
      go_wp2
      · go_ret
        have hH := ‹TB B K wr w' ∧ _ ∧ _ ∧ _ ∧ _ ∧ _ ∧ _ ∧ _ ∧ _ ∧ _ ∧ _›
        have hne : (!decide (x = y)) = true := by assumption
        exact ⟨by rw [decide_eq_false (neq_at' HX.out HY.out (by simpa using hne))]; rfl, HD.out.trans hH.1⟩
      · have hH := ‹TB B K wr w' ∧ _ ∧ _ ∧ _ ∧ _ ∧ _ ∧ _ ∧ _ ∧ _ ∧ _ ∧ _›
        have hne : (!decide (x = y)) = false := by assumption
        exact ⟨⟨k + 1, by go_num, by omega, HD.out.trans hH.1, take_next' HE.out HX.out HY.out (by simpa using hne)⟩, by simp [intOf]; omega⟩
    · have hge : len ≤ k := by omega
      have hge' : (len : Int) ≤ (k : Int) := by omega
      have HA := Lib.hid ha; have HB := Lib.hid hb; have HE := Lib.hid heq; have HD := Lib.hid hdr
      clear uA uB hdr ha hb heq
      go_wp2
      go_ret
      exact ⟨by rw [decide_eq_true (all_taken HE.out (by have := HA.out.1; omega) (by have := HB.out.1; omega))]; rfl, HD.out⟩
set_option maxHeartbeats 400000 in
theorem eqBlk_to {B K : Nat} (w : World) (sa sb : Option Addr) (la lb ca cb : Nat) (h : la ≠ lb) (xs ys : List Blk) (ha : la = xs.length) (hb : lb = ys.length) (hw : WT B K w) :
    Calls Tryz.prog 19 #[.slice sa la ca, .slice sb lb cb, .func (.func 20) #[] #[]] w (SaysT B K (decide (xs = ys)) w) := by
  have hd : ((la : Int) != (lb : Int)) = true := by simp; omega
  have hne : ¬ xs = ys := by rintro rfl; omega
  have H := Lib.hid h; have HA := Lib.hid ha; have HB := Lib.hid hb; have HW := Lib.hid hw
  clear h ha hb hw
  go_enter Tryz.func19, Tryz.ntmps19
  go_wp2
  go_ret
  exact ⟨by rw [decide_eq_false hne]; rfl, TB.refl HW.out⟩
theorem eqBlk_t {B K : Nat} (w : World) (sa sb : Option Addr) (la lb ca cb : Nat) (hla : la ≤ 1099511627776) (xs ys : List Blk) (ha : RBlks w sa la xs) (hb : RBlks w sb lb ys) (hw : WT B K w) (hKb : K ≤ 1099511627776) (vA : SlV B K w 46 5 (.slice sa la ca) la) (vB : SlV B K w 46 5 (.slice sb lb cb) lb) :
    Calls Tryz.prog 19 #[.slice sa la ca, .slice sb lb cb, .func (.func 20) #[] #[]] w (SaysT B K (decide (xs = ys)) w) := by
  by_cases h : la = lb
  · subst h; exact eqBlk_tr w sa sb la ca cb hla xs ys ha hb hw hKb vA vB
  · exact eqBlk_to w sa sb la lb ca cb h xs ys ha.1 hb.1 hw
set_option maxHeartbeats 1000000 in
theorem equal_t {B K : Nat} (w : World) (xs ys : List Blk) (sa sb : Option Addr) (la lb ca cb : Nat) (hla : la ≤ 1099511627776) (ha : RBlks w sa la xs) (hb : RBlks w sb lb ys) (hw : WT B K w) (hKb : K ≤ 1099511627776) (vA : SlV B K w 46 5 (.slice sa la ca) la) (vB : SlV B K w 46 5 (.slice sb lb cb) lb) :
    Calls Tryz.prog 7 #[.agg #[.slice sa la ca], .agg #[.slice sb lb cb]] w (SaysT B K (decide (xs = ys)) w) := by
  have HA := Lib.hid ha; have HB := Lib.hid hb
  have HT := Lib.hid (tb_fun hw vA vB); have VA := Lib.hid vA; have VB := Lib.hid vB; have HKB : Hid (K ≤ 1099511627776) := hKb
  clear ha hb hw vA vB hKb
  go_enter Tryz.func7, Tryz.ntmps7
  go_wp2_with (first | (go_at_call 19; refine (eqBlk_t _ _ _ _ _ _ _ hla xs ys (HA.out.below HT.out.1) (HB.out.below HT.out.1) HT.out.2 HKB.out (HT.out.sl VA.out) (HT.out.sl VB.out)).mono ?_; rintro e w' ⟨rfl, hb1⟩))
  go_ret
  exact ⟨rfl, HT.out.trans hb1⟩
end Go.Proofs.YtahljbkaemhpcaaGreat
