/- The comparisons keep what is well typed: functions, the reference's. -/
import Derived.Test.YtahljbkaemhpcaaGreatV5
namespace Go.Proofs.YtahljbkaemhpcaaGreat
open Go.RowKit
set_option linter.unusedVariables false
/-- What the two boxed blocks hold, and that nothing older has changed. -/
def XYt (B K : Nat) (wr w' : World) (as1 : Option Addr) (al1 ac1 : Nat) (bs1 : Option Addr) (bc1 : Nat) (as2 : Option Addr) (al2 ac2 : Nat) (bs2 : Option Addr) (bc2 : Nat) : Prop :=
  TB B K wr w' ∧ wr.heap.size + 1 < w'.heap.size ∧ w'.cell? ⟨wr.heap.size, 1, none⟩ = some (.slice as1 al1 ac1) ∧ w'.cell? ⟨wr.heap.size, 4, none⟩ = some (.slice as2 al2 ac2) ∧
  w'.cell? ⟨wr.heap.size + 1, 1, none⟩ = some (.slice bs1 al1 bc1) ∧ w'.cell? ⟨wr.heap.size + 1, 4, none⟩ = some (.slice bs2 al2 bc2)
theorem XYt.on {B K : Nat} {wr w' w'' : World} {as1 bs1 as2 bs2 : Option Addr} {al1 ac1 bc1 al2 ac2 bc2 : Nat} (h : XYt B K wr w' as1 al1 ac1 bs1 bc1 as2 al2 ac2 bs2 bc2) (hb : TB B K w' w'') : XYt B K wr w'' as1 al1 ac1 bs1 bc1 as2 al2 ac2 bs2 bc2 := by
  obtain ⟨h1, h2, h3, h4, h5, h6⟩ := h
  exact ⟨h1.trans hb, Nat.lt_of_lt_of_le h2 hb.1.size, bel_some hb.1 h3, bel_some hb.1 h4, bel_some hb.1 h5, bel_some hb.1 h6⟩
theorem XYt.start {B K : Nat} (wr : World) (as0 as1 as2 bs0 bs1 bs2 : Option Addr) (al0 al1 al2 ac0 ac1 ac2 bl0 bc0 bc1 bc2 q : Nat) {xk xa yk ya : Value} (hT : TB B K wr (((wr.alloc (.cells #[.slice as0 al0 ac0, .slice as1 al1 ac1, xk, xa, .slice as2 al2 ac2] 46)).alloc (.cells #[.slice bs0 bl0 bc0, .slice bs1 al1 bc1, yk, ya, .slice bs2 al2 bc2] 46)))) :
    XYt B K wr (((wr.alloc (.cells #[.slice as0 al0 ac0, .slice as1 al1 ac1, xk, xa, .slice as2 al2 ac2] 46)).alloc (.cells #[.slice bs0 bl0 bc0, .slice bs1 al1 bc1, yk, ya, .slice bs2 al2 bc2] 46)).drewN q) as1 al1 ac1 bs1 bc1 as2 al2 ac2 bs2 bc2 := by
  have h0 : wr.heap.size < wr.heap.size + 1 := by omega
  refine ⟨hT.drewN q, by simp, ?_, ?_, ?_, ?_⟩ <;> go_simp
set_option maxRecDepth 100000 in
set_option maxHeartbeats 4000000 in
theorem refEqual_tr {B K : Nat} (w : World) (xs ys : List Blk) (sa sb : Option Addr) (len ca cb : Nat) (hlen : len ≤ 1099511627776) (ha : RBlks w sa len xs) (hb : RBlks w sb len ys) (hw : WT B K w) (hKb : K ≤ 1099511627776) (vA : SlV B K w 46 5 (.slice sa len ca) len) (vB : SlV B K w 46 5 (.slice sb len cb) len) :
    Calls Tryz.prog 9 #[.agg #[.slice sa len ca], .agg #[.slice sb len cb]] w (SaysT B K (decide (xs = ys)) w) := by
  obtain ⟨W2, hW2⟩ : ∃ W2, W2 = (w.alloc (.cells #[.slice sa len ca] 34)).alloc (.cells #[.slice sb len cb] 34) := ⟨_, rfl⟩
  have hB : TB B K w W2 := hW2 ▸ tb_fun hw vA vB
  have hz : W2.heap.size = w.heap.size + 2 := by rw [hW2]; simp
  have hcA : W2.cell? ⟨w.heap.size, 0, none⟩ = some (.slice sa len ca) := by rw [hW2]; go_simp
  have hcB : W2.cell? ⟨w.heap.size + 1, 0, none⟩ = some (.slice sb len cb) := by rw [hW2]; go_simp
  replace ha := ha.below hB.1
  replace hb := hb.below hB.1
  have VA := Lib.hid (hB.sl vA); have VB := Lib.hid (hB.sl vB); have HB0 := Lib.hid hB; have HKB : Hid (K ≤ 1099511627776) := hKb
  clear hw vA vB hB hKb
  have HW := Lib.hid hW2; have HZ := Lib.hid hz
  have hz0 : w.heap.size < W2.heap.size := by omega
  have hz1 : w.heap.size + 1 < W2.heap.size := by omega
  clear hz
  go_enter Tryz.func9, Tryz.ntmps9
  go_wp2
  rw [← hW2]
  clear hW2
  go_loopw [5] (fun i wr => ∃ k : Nat, i = .int .i64 k ∧ k ≤ len ∧ TB B K W2 wr ∧ xs.take k = ys.take k) (fun i _ => len - (intOf i).toNat)
  case atStart => exact ⟨0, rfl, by omega, TB.refl HB0.out.2, rfl⟩
  case round =>
    obtain ⟨wo, rfl⟩ : ∃ u, u = wr := ⟨_, rfl⟩
    obtain ⟨k, rfl, hk, hdr, heq⟩ := hrel
    have hc1 := (bel_some hdr.1 hcA)
    have hc2 := (bel_some hdr.1 hcB)
    have hz2 : w.heap.size + 1 < wo.heap.size := Nat.lt_of_lt_of_le hz1 hdr.1.size
    have hz3 : w.heap.size < wo.heap.size := by omega
    replace ha := ha.below hdr.1
    replace hb := hb.below hdr.1
    have uA := hdr.sl VA.out
    have uB := hdr.sl VB.out
    have HD := Lib.hid hdr
    clear hcA hcB
    by_cases hlt : k < len
    · obtain ⟨x, hx⟩ : ∃ x, xs[k]? = some x := ⟨_, List.getElem?_eq_getElem (by have := ha.1; omega)⟩
      obtain ⟨y, hy⟩ : ∃ y, ys[k]? = some y := ⟨_, List.getElem?_eq_getElem (by have := hb.1; omega)⟩
      obtain ⟨ga, as0, al0, ac0, as1, al1, ac1, as2, al2, ac2, rfl, hBga, lga, ha0, ha1, ha2, ha3, ha4, v0, ar0, v1, ar1, v2, ar2⟩ := srcBlk hdr.2 uA ha hx
      have ab0 : al0 ≤ 1099511627776 := Nat.le_trans v0.1 HKB.out
      have ab1 : al1 ≤ 1099511627776 := Nat.le_trans v1.1 HKB.out
      have ab2 : al2 ≤ 1099511627776 := Nat.le_trans v2.1 HKB.out
      obtain ⟨gb, bs0, bl0, bc0, bs1, bl1, bc1, bs2, bl2, bc2, rfl, hBgb, lgb, hb0, hb1, hb2, hb3, hb4, u0, br0, u1, br1, u2, br2⟩ := srcBlk hdr.2 uB hb hy
      have HTX := Lib.hid (fun (z2 z3 z4 z5 : Int) => tb_blk (x2 := z2) (x3 := z3) (y2 := z4) (y3 := z5) hdr.2 v0 v1 v2 u0 u1 u2)
      have hlt' : (k : Int) < (len : Int) := by omega
      have hk0 : (0 : Int) ≤ (k : Int) := by omega
      have HA := Lib.hid ha; have HB := Lib.hid hb; have HX := Lib.hid hx; have HY := Lib.hid hy; have HE := Lib.hid heq
      have aR0 := Lib.hid ar0; have aR1 := Lib.hid ar1; have aR2 := Lib.hid ar2; have bR0 := Lib.hid br0; have bR1 := Lib.hid br1; have bR2 := Lib.hid br2
      have V1 := Lib.hid v1; have V2 := Lib.hid v2; have U1 := Lib.hid u1; have U2 := Lib.hid u2
      clear v0 v1 v2 u0 u1 u2 uA uB hdr ha hb hx hy heq ar0 ar1 ar2 br0 br1 br2
      by_cases hp : x.params = y.params
      · have HP := Lib.hid hp; clear hp
        by_cases hq : al1 = bl1 ∧ x.kind = y.kind ∧ x.a = y.a ∧ al2 = bl2
        · obtain ⟨rfl, hkd, haa, rfl⟩ := hq
          have HK := Lib.hid hkd; have HAA := Lib.hid haa
          have hk1 : (x.kind != y.kind) = false := by simpa using hkd
          have hk2 : (x.a != y.a) = false := by simpa using haa
          have hk1' : decide (x.kind = y.kind) = true := by simpa using hkd
          clear hkd haa
          go_wp2_with (first | (go_at_call 21; refine ((ints_any _ _ _ _ _ _ _ ab0 x.params y.params (aR0.out.below (bel_two _ _ _)) (bR0.out.below (bel_two _ _ _))).mono (Says.at (b' := true) (by simp [HP.out]))).mono ?_; rintro e w' ⟨rfl, q, rfl⟩))
          go_loopw [9] (fun i w' => ∃ j : Nat, i = .int .i64 j ∧ j ≤ al1 ∧ XYt B K wo w' as1 al1 ac1 bs1 bc1 as2 al2 ac2 bs2 bc2 ∧ x.ops.take j = y.ops.take j) (fun i _ => al1 - (intOf i).toNat)
          case atStart => exact ⟨0, rfl, by omega, XYt.start _ _ _ _ _ _ _ _ _ _ _ _ _ _ _ _ _ _ (HTX.out _ _ _ _), rfl⟩
          case round =>
            obtain ⟨w3p, rfl⟩ : ∃ u, u = wr := ⟨_, rfl⟩
            obtain ⟨j, rfl, hj, hXYp, hte⟩ := hrel
            have HXYp := Lib.hid hXYp
            obtain ⟨hw3, hsz3, hx1, hx4, hy1, hy4⟩ := hXYp
            have hRa := aR1.out.below hw3.1
            have hRb := bR1.out.below hw3.1
            by_cases hjl : j < al1
            · obtain ⟨oxp, hox⟩ : ∃ z, x.ops[j]? = some z := ⟨_, List.getElem?_eq_getElem (by have := hRa.1; omega)⟩
              obtain ⟨oyp, hoy⟩ : ∃ z, y.ops[j]? = some z := ⟨_, List.getElem?_eq_getElem (by have := hRb.1; omega)⟩
              obtain ⟨agp, aSp0, aLp0, aCp0, rfl, lagp, ahp0, ahp1, ahp2, ahp3, ahp4, ahp5, aBp0, vap, arp0⟩ := srcOp hw3.2 (hw3.sl V1.out) hRa hox
              obtain ⟨bgp, bSp0, bLp0, bCp0, rfl, lbgp, bhp0, bhp1, bhp2, bhp3, bhp4, bhp5, bBp0, vbp, brp0⟩ := srcOp hw3.2 (hw3.sl U1.out) hRb hoy
              have hj' : (j : Int) < (al1 : Int) := by omega
              have hj0 : (0 : Int) ≤ (j : Int) := by omega
              have HRA := Lib.hid hRa; have HRB := Lib.hid hRb; have HOX := Lib.hid hox; have HOY := Lib.hid hoy; have HTE := Lib.hid hte; have HW3 := Lib.hid hw3; have VAp := Lib.hid vap; have VBp := Lib.hid vbp; have aQp0 := Lib.hid arp0; have bQp0 := Lib.hid brp0
              clear hw3 vap vbp hRa hRb hox hoy hte arp0 brp0
              go_wp2_with fail
              go_region_held3 (fun w' => TB B K w3p w' ∧ w'.cell? ⟨wo.heap.size, 1, none⟩ = some (.slice (some ⟨agp, 0, none⟩) al1 ac1) ∧ w'.cell? ⟨wo.heap.size + 1, 1, none⟩ = some (.slice (some ⟨bgp, 0, none⟩) al1 bc1) ∧ w'.cell? ⟨agp, j * 6, none⟩ = some (.int .i64 oxp.code) ∧ w'.cell? ⟨agp, j * 6 + 1, none⟩ = some (.int .i64 oxp.res) ∧ w'.cell? ⟨agp, j * 6 + 2, none⟩ = some (.int .i64 oxp.a) ∧ w'.cell? ⟨agp, j * 6 + 3, none⟩ = some (.int .i64 oxp.b) ∧ w'.cell? ⟨agp, j * 6 + 4, none⟩ = some (.int .u16 oxp.n) ∧ w'.cell? ⟨agp, j * 6 + 5, none⟩ = some (.slice aSp0 aLp0 aCp0) ∧ w'.cell? ⟨bgp, j * 6, none⟩ = some (.int .i64 oyp.code) ∧ w'.cell? ⟨bgp, j * 6 + 1, none⟩ = some (.int .i64 oyp.res) ∧ w'.cell? ⟨bgp, j * 6 + 2, none⟩ = some (.int .i64 oyp.a) ∧ w'.cell? ⟨bgp, j * 6 + 3, none⟩ = some (.int .i64 oyp.b) ∧ w'.cell? ⟨bgp, j * 6 + 4, none⟩ = some (.int .u16 oyp.n) ∧ w'.cell? ⟨bgp, j * 6 + 5, none⟩ = some (.slice bSp0 bLp0 bCp0))
                (first | exact ⟨(TB.refl HW3.out.2).drew, hx1, hy1, ahp0, ahp1, ahp2, ahp3, ahp4, ahp5, bhp0, bhp1, bhp2, bhp3, bhp4, bhp5⟩ | go_keep | exact ⟨hS.1.trans hb', bel_some hb'.1 hS.2.1, bel_some hb'.1 hS.2.2.1, bel_some hb'.1 hS.2.2.2.1, bel_some hb'.1 hS.2.2.2.2.1, bel_some hb'.1 hS.2.2.2.2.2.1, bel_some hb'.1 hS.2.2.2.2.2.2.1, bel_some hb'.1 hS.2.2.2.2.2.2.2.1, bel_some hb'.1 hS.2.2.2.2.2.2.2.2.1, bel_some hb'.1 hS.2.2.2.2.2.2.2.2.2.1, bel_some hb'.1 hS.2.2.2.2.2.2.2.2.2.2.1, bel_some hb'.1 hS.2.2.2.2.2.2.2.2.2.2.2.1, bel_some hb'.1 hS.2.2.2.2.2.2.2.2.2.2.2.2.1, bel_some hb'.1 hS.2.2.2.2.2.2.2.2.2.2.2.2.2.1, bel_some hb'.1 hS.2.2.2.2.2.2.2.2.2.2.2.2.2.2⟩)
                (first | (go_at_call 22; have hS := ‹TB B K w3p _ ∧ _ ∧ _ ∧ _ ∧ _ ∧ _ ∧ _ ∧ _ ∧ _ ∧ _ ∧ _ ∧ _ ∧ _ ∧ _ ∧ _›; refine (refOp_t _ oxp oyp _ _ _ _ _ _ aBp0 (aQp0.out.below hS.1.1) (bQp0.out.below hS.1.1) hS.1.2 (hS.1.sl VAp.out) (hS.1.sl VBp.out)).mono ?_; rintro e w' ⟨rfl, hb'⟩))
              go_wp2_with fail
              · go_ret
                have hH := ‹TB B K w3p w' ∧ _ ∧ _ ∧ _ ∧ _ ∧ _ ∧ _ ∧ _ ∧ _ ∧ _ ∧ _ ∧ _ ∧ _ ∧ _ ∧ _›
                have hne : (!decide (oxp = oyp)) = true := by assumption
                have hne2 : ¬ x = y := fun e => neq_at' HOX.out HOY.out (by simpa using hne) (by rw [e])
                exact ⟨by rw [decide_eq_false (neq_at' HX.out HY.out hne2)]; rfl, (HB0.out.trans HD.out).trans (HW3.out.trans hH.1)⟩
              · have hH := ‹TB B K w3p w' ∧ _ ∧ _ ∧ _ ∧ _ ∧ _ ∧ _ ∧ _ ∧ _ ∧ _ ∧ _ ∧ _ ∧ _ ∧ _ ∧ _›
                have hne : (!decide (oxp = oyp)) = false := by assumption
                exact ⟨⟨j + 1, by go_num, by omega, HXYp.out.on hH.1, take_next' HTE.out HOX.out HOY.out (by simpa using hne)⟩, by simp [intOf]; omega⟩
            · have hjg : al1 ≤ j := by omega
              have hjg' : (al1 : Int) ≤ (j : Int) := by omega
              have HEQp : Hid (x.ops = y.ops) := all_taken hte (by have := hRa.1; omega) (by have := hRb.1; omega)
              have HRA := Lib.hid hRa; have HRB := Lib.hid hRb; have HW3p := Lib.hid hw3
              clear hRa hRb hte
              go_wp2_with fail
              go_loopw [11] (fun i w' => ∃ j : Nat, i = .int .i64 j ∧ j ≤ al2 ∧ XYt B K wo w' as1 al1 ac1 bs1 bc1 as2 al2 ac2 bs2 bc2 ∧ x.to.take j = y.to.take j) (fun i _ => al2 - (intOf i).toNat)
              case atStart => exact ⟨0, rfl, by omega, HXYp.out, rfl⟩
              case round =>
                obtain ⟨w3q, rfl⟩ : ∃ u, u = wr := ⟨_, rfl⟩
                obtain ⟨j, rfl, hj, hXYq, hte⟩ := hrel
                have HXYq := Lib.hid hXYq
                obtain ⟨hw3, hsz3, hx1, hx4, hy1, hy4⟩ := hXYq
                have hRa := aR2.out.below hw3.1
                have hRb := bR2.out.below hw3.1
                by_cases hjl : j < al2
                · obtain ⟨oxq, hox⟩ : ∃ z, x.to[j]? = some z := ⟨_, List.getElem?_eq_getElem (by have := hRa.1; omega)⟩
                  obtain ⟨oyq, hoy⟩ : ∃ z, y.to[j]? = some z := ⟨_, List.getElem?_eq_getElem (by have := hRb.1; omega)⟩
                  obtain ⟨agq, aSq0, aLq0, aCq0, rfl, lagq, ahq0, ahq1, aBq0, vaq, arq0⟩ := srcEdg hw3.2 (hw3.sl V2.out) hRa hox
                  obtain ⟨bgq, bSq0, bLq0, bCq0, rfl, lbgq, bhq0, bhq1, bBq0, vbq, brq0⟩ := srcEdg hw3.2 (hw3.sl U2.out) hRb hoy
                  have hj' : (j : Int) < (al2 : Int) := by omega
                  have hj0 : (0 : Int) ≤ (j : Int) := by omega
                  have HRA := Lib.hid hRa; have HRB := Lib.hid hRb; have HOX := Lib.hid hox; have HOY := Lib.hid hoy; have HTE := Lib.hid hte; have HW3 := Lib.hid hw3; have VAq := Lib.hid vaq; have VBq := Lib.hid vbq; have aQq0 := Lib.hid arq0; have bQq0 := Lib.hid brq0
                  clear hw3 vaq vbq hRa hRb hox hoy hte arq0 brq0
                  go_wp2_with fail
                  go_region_held3 (fun w' => TB B K w3q w' ∧ w'.cell? ⟨wo.heap.size, 4, none⟩ = some (.slice (some ⟨agq, 0, none⟩) al2 ac2) ∧ w'.cell? ⟨wo.heap.size + 1, 4, none⟩ = some (.slice (some ⟨bgq, 0, none⟩) al2 bc2) ∧ w'.cell? ⟨agq, j * 2, none⟩ = some (.int .i64 oxq.block) ∧ w'.cell? ⟨agq, j * 2 + 1, none⟩ = some (.slice aSq0 aLq0 aCq0) ∧ w'.cell? ⟨bgq, j * 2, none⟩ = some (.int .i64 oyq.block) ∧ w'.cell? ⟨bgq, j * 2 + 1, none⟩ = some (.slice bSq0 bLq0 bCq0))
                    (first | exact ⟨(TB.refl HW3.out.2).drew, hx4, hy4, ahq0, ahq1, bhq0, bhq1⟩ | go_keep | exact ⟨hS.1.trans hb', bel_some hb'.1 hS.2.1, bel_some hb'.1 hS.2.2.1, bel_some hb'.1 hS.2.2.2.1, bel_some hb'.1 hS.2.2.2.2.1, bel_some hb'.1 hS.2.2.2.2.2.1, bel_some hb'.1 hS.2.2.2.2.2.2⟩)
                    (first | (go_at_call 23; have hS := ‹TB B K w3q _ ∧ _ ∧ _ ∧ _ ∧ _ ∧ _ ∧ _›; refine (refEdge_t _ oxq oyq _ _ _ _ _ _ aBq0 (aQq0.out.below hS.1.1) (bQq0.out.below hS.1.1) hS.1.2 (hS.1.sl VAq.out) (hS.1.sl VBq.out)).mono ?_; rintro e w' ⟨rfl, hb'⟩))
                  go_wp2_with fail
                  · go_ret
                    have hH := ‹TB B K w3q w' ∧ _ ∧ _ ∧ _ ∧ _ ∧ _ ∧ _›
                    have hne : (!decide (oxq = oyq)) = true := by assumption
                    have hne2 : ¬ x = y := fun e => neq_at' HOX.out HOY.out (by simpa using hne) (by rw [e])
                    exact ⟨by rw [decide_eq_false (neq_at' HX.out HY.out hne2)]; rfl, (HB0.out.trans HD.out).trans (HW3.out.trans hH.1)⟩
                  · have hH := ‹TB B K w3q w' ∧ _ ∧ _ ∧ _ ∧ _ ∧ _ ∧ _›
                    have hne : (!decide (oxq = oyq)) = false := by assumption
                    exact ⟨⟨j + 1, by go_num, by omega, HXYq.out.on hH.1, take_next' HTE.out HOX.out HOY.out (by simpa using hne)⟩, by simp [intOf]; omega⟩
                · have hjg : al2 ≤ j := by omega
                  have hjg' : (al2 : Int) ≤ (j : Int) := by omega
                  have HEQq : Hid (x.to = y.to) := all_taken hte (by have := hRa.1; omega) (by have := hRb.1; omega)
                  have HRA := Lib.hid hRa; have HRB := Lib.hid hRb; have HW3q := Lib.hid hw3
                  clear hRa hRb hte
                  go_wp2_with fail
                  exact ⟨⟨k + 1, by go_num, by omega, HD.out.trans HW3q.out, take_next' HE.out HX.out HY.out (blk_ext HP.out HEQp.out HK.out HAA.out HEQq.out)⟩, by simp [intOf]; omega⟩
        · have HQ := Lib.hid hq; clear hq
          go_wp2_with (first | (go_at_call 21; refine ((ints_any _ _ _ _ _ _ _ ab0 x.params y.params (aR0.out.below (bel_two _ _ _)) (bR0.out.below (bel_two _ _ _))).mono (Says.at (b' := true) (by simp [HP.out]))).mono ?_; rintro e w' ⟨rfl, q, rfl⟩))
          all_goals first
            | (exfalso; apply HQ.out; refine ⟨?_, ?_, ?_, ?_⟩ <;> (simp_all; done))
            | exact (HQ.out ⟨by omega, by assumption, by assumption, len_eq (by assumption)⟩).elim
            | (go_ret
               have hne : ¬ x = y := fun e => by
                 have e1 : al1 = bl1 := by rw [aR1.out.1, bR1.out.1, e]
                 have e2 : al2 = bl2 := by rw [aR2.out.1, bR2.out.1, e]
                 exact HQ.out ⟨e1, by rw [e], by rw [e], e2⟩
               exact ⟨by rw [decide_eq_false (neq_at' HX.out HY.out hne)]; rfl, (HB0.out.trans HD.out).trans ((HTX.out _ _ _ _).drewN _)⟩)
      · have HP := Lib.hid hp; clear hp
        go_wp2_with (first | (go_at_call 21; refine ((ints_any _ _ _ _ _ _ _ ab0 x.params y.params (aR0.out.below (bel_two _ _ _)) (bR0.out.below (bel_two _ _ _))).mono (Says.at (b' := false) (by simp [HP.out]))).mono ?_; rintro e w' ⟨rfl, q, rfl⟩))
        go_ret
        have hne : ¬ x = y := fun e => HP.out (by rw [e])
        exact ⟨by rw [decide_eq_false (neq_at' HX.out HY.out hne)]; rfl, (HB0.out.trans HD.out).trans ((HTX.out _ _ _ _).drewN _)⟩
    · have hge : len ≤ k := by omega
      have hge' : (len : Int) ≤ (k : Int) := by omega
      have HA := Lib.hid ha; have HB := Lib.hid hb; have HE := Lib.hid heq
      clear uA uB hdr ha hb heq
      go_wp2_with fail
      go_ret
      exact ⟨by rw [decide_eq_true (all_taken HE.out (by have := HA.out.1; omega) (by have := HB.out.1; omega))]; rfl, HB0.out.trans HD.out⟩
set_option maxHeartbeats 1000000 in
theorem refEqual_to {B K : Nat} (w : World) (xs ys : List Blk) (sa sb : Option Addr) (la lb ca cb : Nat) (h : la ≠ lb) (ha : la = xs.length) (hb : lb = ys.length) (hw : WT B K w) (vA : SlV B K w 46 5 (.slice sa la ca) la) (vB : SlV B K w 46 5 (.slice sb lb cb) lb) :
    Calls Tryz.prog 9 #[.agg #[.slice sa la ca], .agg #[.slice sb lb cb]] w (SaysT B K (decide (xs = ys)) w) := by
  have hd : ((la : Int) != (lb : Int)) = true := by simp; omega
  have hne : ¬ xs = ys := by rintro rfl; omega
  have H := Lib.hid h; have HA := Lib.hid ha; have HB := Lib.hid hb
  have HT := Lib.hid (tb_fun hw vA vB)
  clear h ha hb hw vA vB
  go_enter Tryz.func9, Tryz.ntmps9
  go_wp2
  go_ret
  exact ⟨by rw [decide_eq_false hne]; rfl, HT.out⟩
theorem refEqual_t {B K : Nat} (w : World) (xs ys : List Blk) (sa sb : Option Addr) (la lb ca cb : Nat) (hla : la ≤ 1099511627776) (ha : RBlks w sa la xs) (hb : RBlks w sb lb ys) (hw : WT B K w) (hKb : K ≤ 1099511627776) (vA : SlV B K w 46 5 (.slice sa la ca) la) (vB : SlV B K w 46 5 (.slice sb lb cb) lb) :
    Calls Tryz.prog 9 #[.agg #[.slice sa la ca], .agg #[.slice sb lb cb]] w (SaysT B K (decide (xs = ys)) w) := by
  by_cases h : la = lb
  · subst h; exact refEqual_tr w xs ys sa sb la ca cb hla ha hb hw hKb vA vB
  · exact refEqual_to w xs ys sa sb la lb ca cb h ha.1 hb.1 hw vA vB
end Go.Proofs.YtahljbkaemhpcaaGreat
