import Derived.Test.YtahljbkaemhpcaaGreatW6
namespace Go.Proofs.YtahljbkaemhpcaaGreat
open Go.RowKit
set_option linter.unusedVariables false
theorem cells46 : Tryz.prog.cellsOf 46 = 5 := by kernel_rfl
/-- A block, as data. -/
structure Blk where
  params : List Int
  ops : List Opr
  kind : Int
  a : Int
  to : List Edg
  deriving DecidableEq
theorem bcell {W w1 : World} (hb : Below W.heap.size W w1) : (∀ b o, b < W.heap.size → w1.cell? ⟨b, o, none⟩ = W.cell? ⟨b, o, none⟩) :=
  fun b o h => hb.cell (p := ⟨b, o, none⟩) h
theorem SaysB.at {b b' : Bool} {w : World} (h : b = b') (e : Ending) (w' : World) (hs : SaysB b w e w') : SaysB b' w e w' := h ▸ hs
/-- A slice of them that reads as a list. -/
def RBlks (w : World) (sa : Option Addr) (len : Nat) (xs : List Blk) : Prop := len = xs.length ∧ ∀ j x, xs[j]? = some x → ∃ (g o : Nat) (s0 : Option Addr) (l0 c0 : Nat) (s1 : Option Addr) (l1 c1 : Nat) (s2 : Option Addr) (l2 c2 : Nat), sa = some ⟨g, o, none⟩ ∧
  w.cell? ⟨g, o + j * 5, none⟩ = some (.slice s0 l0 c0) ∧ w.cell? ⟨g, o + j * 5 + 1, none⟩ = some (.slice s1 l1 c1) ∧ w.cell? ⟨g, o + j * 5 + 2, none⟩ = some (.int .i64 x.kind) ∧ w.cell? ⟨g, o + j * 5 + 3, none⟩ = some (.int .i64 x.a) ∧ w.cell? ⟨g, o + j * 5 + 4, none⟩ = some (.slice s2 l2 c2) ∧ l0 ≤ 1099511627776 ∧ RInts w s0 l0 x.params ∧ l1 ≤ 1099511627776 ∧ ROprs w s1 l1 x.ops ∧ l2 ≤ 1099511627776 ∧ REdgs w s2 l2 x.to
theorem RBlks.below {w w' : World} {sa : Option Addr} {len : Nat} {xs : List Blk} (h : RBlks w sa len xs) (hb : Below w.heap.size w w') : RBlks w' sa len xs :=
  ⟨h.1, fun j z hj => by
    obtain ⟨g, o, s0, l0, c0, s1, l1, c1, s2, l2, c2, e, h0, h1, h2, h3, h4, b0, r0, b1, r1, b2, r2⟩ := h.2 j z hj
    exact ⟨g, o, s0, l0, c0, s1, l1, c1, s2, l2, c2, e, bel_some hb h0, bel_some hb h1, bel_some hb h2, bel_some hb h3, bel_some hb h4, b0, r0.below hb, b1, r1.below hb, b2, r2.below hb⟩⟩
set_option maxRecDepth 100000 in
set_option maxHeartbeats 4000000 in
theorem sameBlock_any (w : World) (x y : Blk) (s0 s1 s2 t0 t1 t2 : Option Addr) (l0 l1 l2 m0 m1 m2 c0 c1 c2 d0 d1 d2 : Nat) (h0 : l0 ≤ 1099511627776) (h1 : l1 ≤ 1099511627776) (h2 : l2 ≤ 1099511627776)
    (a0 : RInts w s0 l0 x.params) (a1 : ROprs w s1 l1 x.ops) (a2 : REdgs w s2 l2 x.to) (b0 : RInts w t0 m0 y.params) (b1 : ROprs w t1 m1 y.ops) (b2 : REdgs w t2 m2 y.to) :
    Calls Tryz.prog 20 #[.agg #[.slice s0 l0 c0, .slice s1 l1 c1, .int .i64 x.kind, .int .i64 x.a, .slice s2 l2 c2], .agg #[.slice t0 m0 d0, .slice t1 m1 d1, .int .i64 y.kind, .int .i64 y.a, .slice t2 m2 d2]] w (SaysB (decide (x = y)) w) := by
  obtain ⟨x0, x1, x2, x3, x4⟩ := x
  obtain ⟨y0, y1, y2, y3, y4⟩ := y
  simp only at a0 a1 a2 b0 b1 b2 ⊢
  have A0 := Lib.hid a0; have A1 := Lib.hid a1; have A2 := Lib.hid a2; have B0 := Lib.hid b0; have B1 := Lib.hid b1; have B2 := Lib.hid b2
  clear a0 a1 a2 b0 b1 b2
  have hsz : w.heap.size < w.heap.size + 1 + 1 := by omega
  have hsz1 : w.heap.size + 1 < w.heap.size + 1 + 1 := by omega
  go_enter Tryz.func20, Tryz.ntmps20
  go_wp2_with (first
    | (go_at_call 41; refine (eqInt_any _ _ _ _ _ _ _ h0 x0 y0 (A0.out.below (bel_two _ _ _)) (B0.out.below (bel_two _ _ _))).mono ?_; rintro e w' ⟨rfl, k, rfl⟩)
    | (go_at_call 43; refine (eqOp_any _ _ _ _ _ _ _ h1 x1 y1 (A1.out.below (bel_drewN (bel_two _ _ _) _)) (B1.out.below (bel_drewN (bel_two _ _ _) _))).mono ?_; rintro e w1 ⟨rfl, hb1⟩; have hc1 := bcell hb1; simp at hc1)
    | (go_at_call 45; refine (eqEdge_any _ _ _ _ _ _ _ h2 x4 y4 (A2.out.below ((bel_drewN (bel_two _ _ _) _).trans (hb1.mono (by simp; omega)))) (B2.out.below ((bel_drewN (bel_two _ _ _) _).trans (hb1.mono (by simp; omega))))).mono ?_; rintro e w2 ⟨rfl, hb2⟩))
  all_goals (go_ret; refine ⟨?_, ?_⟩; focus (first | (simp [*]; done) | (simp [*]; rw [Bool.eq_iff_iff]; simp)))
  all_goals first
    | exact bel_drewN (bel_two _ _ _) _
    | (have hs1 := hb1.size; simp at hs1; first
        | exact (bel_drewN (bel_two _ _ _) _).trans (hb1.mono (by simp; omega))
        | exact ((bel_drewN (bel_two _ _ _) _).trans (hb1.mono (by simp; omega))).trans (hb2.mono (by omega)))
set_option maxRecDepth 100000 in
set_option maxHeartbeats 4000000 in
theorem eqBlk_round (w : World) (sa sb : Option Addr) (len ca cb : Nat) (hlen : len ≤ 1099511627776) (xs ys : List Blk) (ha : RBlks w sa len xs) (hb : RBlks w sb len ys) :
    Calls Tryz.prog 19 #[.slice sa len ca, .slice sb len cb, .func (.func 20) #[] #[]] w (SaysB (decide (xs = ys)) w) := by
  go_enter Tryz.func19, Tryz.ntmps19
  go_wp2
  go_loopw [15] (fun i wr => ∃ k : Nat, i = .int .i64 k ∧ k ≤ len ∧ Below w.heap.size w wr ∧ xs.take k = ys.take k) (fun i _ => len - (intOf i).toNat)
  case atStart => exact ⟨0, rfl, by omega, Below.refl _ _, rfl⟩
  case round =>
    obtain ⟨k, rfl, hk, hdr, heq⟩ := hrel
    replace ha := ha.below hdr
    replace hb := hb.below hdr
    by_cases hlt : k < len
    · obtain ⟨x, hx⟩ : ∃ x, xs[k]? = some x := ⟨_, List.getElem?_eq_getElem (by have := ha.1; omega)⟩
      obtain ⟨y, hy⟩ : ∃ y, ys[k]? = some y := ⟨_, List.getElem?_eq_getElem (by have := hb.1; omega)⟩
      obtain ⟨ga, oa, as0, al0, ac0, as1, al1, ac1, as2, al2, ac2, rfl, ha0, ha1, ha2, ha3, ha4, ab0, ar0, ab1, ar1, ab2, ar2⟩ := ha.2 k x hx
      obtain ⟨gb, ob, bs0, bl0, bc0, bs1, bl1, bc1, bs2, bl2, bc2, rfl, hb0, hb1, hb2, hb3, hb4, bb0, br0, bb1, br1, bb2, br2⟩ := hb.2 k y hy
      have hlt' : (k : Int) < (len : Int) := by omega
      have hk0 : (0 : Int) ≤ (k : Int) := by omega
      have HA := Lib.hid ha; have HB := Lib.hid hb; have HX := Lib.hid hx; have HY := Lib.hid hy; have HE := Lib.hid heq; have aR0 := Lib.hid ar0; have aR1 := Lib.hid ar1; have aR2 := Lib.hid ar2; have bR0 := Lib.hid br0; have bR1 := Lib.hid br1; have bR2 := Lib.hid br2
      clear ha hb hx hy heq ar0 ar1 ar2 br0 br1 br2
      go_wp2
      go_region_held3 (fun w' => Below wr.heap.size wr w' ∧ w'.cell? ⟨ga, oa + k * 5, none⟩ = some (.slice as0 al0 ac0) ∧ w'.cell? ⟨ga, oa + k * 5 + 1, none⟩ = some (.slice as1 al1 ac1) ∧ w'.cell? ⟨ga, oa + k * 5 + 2, none⟩ = some (.int .i64 x.kind) ∧ w'.cell? ⟨ga, oa + k * 5 + 3, none⟩ = some (.int .i64 x.a) ∧ w'.cell? ⟨ga, oa + k * 5 + 4, none⟩ = some (.slice as2 al2 ac2) ∧ w'.cell? ⟨gb, ob + k * 5, none⟩ = some (.slice bs0 bl0 bc0) ∧ w'.cell? ⟨gb, ob + k * 5 + 1, none⟩ = some (.slice bs1 bl1 bc1) ∧ w'.cell? ⟨gb, ob + k * 5 + 2, none⟩ = some (.int .i64 y.kind) ∧ w'.cell? ⟨gb, ob + k * 5 + 3, none⟩ = some (.int .i64 y.a) ∧ w'.cell? ⟨gb, ob + k * 5 + 4, none⟩ = some (.slice bs2 bl2 bc2))
        (first | exact ⟨(Below.refl _ _).drew, ha0, ha1, ha2, ha3, ha4, hb0, hb1, hb2, hb3, hb4⟩ | go_keep | exact ⟨hS.1.trans (hb'.mono hS.1.size), bel_some hb' hS.2.1, bel_some hb' hS.2.2.1, bel_some hb' hS.2.2.2.1, bel_some hb' hS.2.2.2.2.1, bel_some hb' hS.2.2.2.2.2.1, bel_some hb' hS.2.2.2.2.2.2.1, bel_some hb' hS.2.2.2.2.2.2.2.1, bel_some hb' hS.2.2.2.2.2.2.2.2.1, bel_some hb' hS.2.2.2.2.2.2.2.2.2.1, bel_some hb' hS.2.2.2.2.2.2.2.2.2.2⟩)
        (first | (go_at_call 20; have hS := ‹Below wr.heap.size wr _ ∧ _ ∧ _ ∧ _ ∧ _ ∧ _ ∧ _ ∧ _ ∧ _ ∧ _ ∧ _›; refine (sameBlock_any _ x y _ _ _ _ _ _ _ _ _ _ _ _ _ _ _ _ _ _ ab0 ab1 ab2 (aR0.out.below hS.1) (aR1.out.below hS.1) (aR2.out.below hS.1) (bR0.out.below hS.1) (bR1.out.below hS.1) (bR2.out.below hS.1)).mono ?_; rintro e w' ⟨rfl, hb'⟩))
      go_wp2
      · go_ret
        have hH := ‹Below wr.heap.size wr w' ∧ _ ∧ _ ∧ _ ∧ _ ∧ _ ∧ _ ∧ _ ∧ _ ∧ _ ∧ _›
        have hne : (!decide (x = y)) = true := by assumption
        exact ⟨by rw [decide_eq_false (neq_at' HX.out HY.out (by simpa using hne))]; rfl, hdr.trans (hH.1.mono hdr.size)⟩
      · have hH := ‹Below wr.heap.size wr w' ∧ _ ∧ _ ∧ _ ∧ _ ∧ _ ∧ _ ∧ _ ∧ _ ∧ _ ∧ _›
        have hne : (!decide (x = y)) = false := by assumption
        exact ⟨⟨k + 1, by go_num, by omega, hdr.trans (hH.1.mono hdr.size), take_next' HE.out HX.out HY.out (by simpa using hne)⟩, by simp [intOf]; omega⟩
    · have hge : len ≤ k := by omega
      have hge' : (len : Int) ≤ (k : Int) := by omega
      have HA := Lib.hid ha; have HB := Lib.hid hb; have HE := Lib.hid heq
      clear ha hb heq
      go_wp2
      go_ret
      exact ⟨by rw [decide_eq_true (all_taken HE.out (by have := HA.out.1; omega) (by have := HB.out.1; omega))]; rfl, hdr⟩
set_option maxHeartbeats 400000 in
theorem eqBlk_other (w : World) (sa sb : Option Addr) (la lb ca cb : Nat) (h : la ≠ lb) (xs ys : List Blk) (ha : la = xs.length) (hb : lb = ys.length) :
    Calls Tryz.prog 19 #[.slice sa la ca, .slice sb lb cb, .func (.func 20) #[] #[]] w (SaysB (decide (xs = ys)) w) := by
  have hd : ((la : Int) != (lb : Int)) = true := by simp; omega
  have hne : ¬ xs = ys := by rintro rfl; omega
  have H := Lib.hid h; have HA := Lib.hid ha; have HB := Lib.hid hb
  clear h ha hb
  go_enter Tryz.func19, Tryz.ntmps19
  go_wp2
  go_ret
  exact ⟨by rw [decide_eq_false hne]; rfl, Below.refl _ _⟩
theorem eqBlk_any (w : World) (sa sb : Option Addr) (la lb ca cb : Nat) (hla : la ≤ 1099511627776) (xs ys : List Blk) (ha : RBlks w sa la xs) (hb : RBlks w sb lb ys) :
    Calls Tryz.prog 19 #[.slice sa la ca, .slice sb lb cb, .func (.func 20) #[] #[]] w (SaysB (decide (xs = ys)) w) := by
  by_cases h : la = lb
  · subst h; exact eqBlk_round w sa sb la ca cb hla xs ys ha hb
  · exact eqBlk_other w sa sb la lb ca cb h xs ys ha.1 hb.1
set_option maxHeartbeats 1000000 in
theorem equal_any (w : World) (xs ys : List Blk) (sa sb : Option Addr) (la lb ca cb : Nat) (hla : la ≤ 1099511627776) (ha : RBlks w sa la xs) (hb : RBlks w sb lb ys) :
    Calls Tryz.prog 7 #[.agg #[.slice sa la ca], .agg #[.slice sb lb cb]] w (SaysB (decide (xs = ys)) w) := by
  have HA := Lib.hid ha; have HB := Lib.hid hb
  clear ha hb
  go_enter Tryz.func7, Tryz.ntmps7
  go_wp2_with (first | (go_at_call 19; refine (eqBlk_any _ _ _ _ _ _ _ hla xs ys (HA.out.below (bel_two _ _ _)) (HB.out.below (bel_two _ _ _))).mono ?_; rintro e w' ⟨rfl, hb1⟩))
  go_ret
  exact ⟨rfl, (bel_two _ _ _).trans (hb1.mono (by simp; omega))⟩
end Go.Proofs.YtahljbkaemhpcaaGreat
