import Derived.Test.YtahljbkaemhpcaaGreatW7
namespace Go.Proofs.YtahljbkaemhpcaaGreat
open Go.RowKit
set_option linter.unusedVariables false
theorem len_eq {a b : Nat} (h : ((a : Int) != (b : Int)) = false) : a = b := by
  have e : (a : Int) = (b : Int) := by simpa using h
  omega
/-- What the two boxed blocks hold, and that nothing older has changed. -/
def XY (wr w' : World) (as1 : Option Addr) (al1 ac1 : Nat) (bs1 : Option Addr) (bc1 : Nat) (as2 : Option Addr) (al2 ac2 : Nat) (bs2 : Option Addr) (bc2 : Nat) : Prop :=
  Below wr.heap.size wr w' ∧ wr.heap.size + 1 < w'.heap.size ∧ w'.cell? ⟨wr.heap.size, 1, none⟩ = some (.slice as1 al1 ac1) ∧ w'.cell? ⟨wr.heap.size, 4, none⟩ = some (.slice as2 al2 ac2) ∧
  w'.cell? ⟨wr.heap.size + 1, 1, none⟩ = some (.slice bs1 al1 bc1) ∧ w'.cell? ⟨wr.heap.size + 1, 4, none⟩ = some (.slice bs2 al2 bc2)
theorem XY.on {wr w' w'' : World} {as1 bs1 as2 bs2 : Option Addr} {al1 ac1 bc1 al2 ac2 bc2 : Nat} (h : XY wr w' as1 al1 ac1 bs1 bc1 as2 al2 ac2 bs2 bc2) (hb : Below w'.heap.size w' w'') : XY wr w'' as1 al1 ac1 bs1 bc1 as2 al2 ac2 bs2 bc2 := by
  obtain ⟨h1, h2, h3, h4, h5, h6⟩ := h
  exact ⟨h1.trans (hb.mono h1.size), Nat.lt_of_lt_of_le h2 hb.size, bel_some hb h3, bel_some hb h4, bel_some hb h5, bel_some hb h6⟩
theorem XY.start (wr : World) (as0 as1 as2 bs0 bs1 bs2 : Option Addr) (al0 al1 al2 ac0 ac1 ac2 bl0 bc0 bc1 bc2 q : Nat) {xk xa yk ya : Value} :
    XY wr (((wr.alloc (.cells #[.slice as0 al0 ac0, .slice as1 al1 ac1, xk, xa, .slice as2 al2 ac2] 46)).alloc (.cells #[.slice bs0 bl0 bc0, .slice bs1 al1 bc1, yk, ya, .slice bs2 al2 bc2] 46)).drewN q) as1 al1 ac1 bs1 bc1 as2 al2 ac2 bs2 bc2 := by
  have h0 : wr.heap.size < wr.heap.size + 1 := by omega
  refine ⟨bel_drewN (bel_two _ _ _) q, by simp, ?_, ?_, ?_, ?_⟩ <;> go_simp
theorem blk_ext {x y : Blk} (h0 : x.params = y.params) (h1 : x.ops = y.ops) (h2 : x.kind = y.kind) (h3 : x.a = y.a) (h4 : x.to = y.to) : x = y := by
  obtain ⟨x0, x1, x2, x3, x4⟩ := x
  obtain ⟨y0, y1, y2, y3, y4⟩ := y
  simp only at h0 h1 h2 h3 h4
  subst h0 h1 h2 h3 h4
  rfl
set_option maxRecDepth 100000 in
set_option maxHeartbeats 4000000 in
theorem refEqual_round (w : World) (xs ys : List Blk) (sa sb : Option Addr) (len ca cb : Nat) (hlen : len ≤ 1099511627776) (ha : RBlks w sa len xs) (hb : RBlks w sb len ys) :
    Calls Tryz.prog 9 #[.agg #[.slice sa len ca], .agg #[.slice sb len cb]] w (SaysB (decide (xs = ys)) w) := by
  obtain ⟨W2, hW2⟩ : ∃ W2, W2 = (w.alloc (.cells #[.slice sa len ca] 34)).alloc (.cells #[.slice sb len cb] 34) := ⟨_, rfl⟩
  have hB : Below w.heap.size w W2 := hW2 ▸ bel_two _ _ _
  have hz : W2.heap.size = w.heap.size + 2 := by rw [hW2]; simp
  have hcA : W2.cell? ⟨w.heap.size, 0, none⟩ = some (.slice sa len ca) := by rw [hW2]; go_simp
  have hcB : W2.cell? ⟨w.heap.size + 1, 0, none⟩ = some (.slice sb len cb) := by rw [hW2]; go_simp
  replace ha := ha.below hB
  replace hb := hb.below hB
  have HW := Lib.hid hW2; have HZ := Lib.hid hz
  have hz0 : w.heap.size < W2.heap.size := by omega
  have hz1 : w.heap.size + 1 < W2.heap.size := by omega
  clear hz
  go_enter Tryz.func9, Tryz.ntmps9
  go_wp2
  rw [← hW2]
  clear hW2
  go_loopw [5] (fun i wr => ∃ k : Nat, i = .int .i64 k ∧ k ≤ len ∧ Below W2.heap.size W2 wr ∧ xs.take k = ys.take k) (fun i _ => len - (intOf i).toNat)
  case atStart => exact ⟨0, rfl, by omega, Below.refl _ _, rfl⟩
  case round =>
    obtain ⟨wo, rfl⟩ : ∃ u, u = wr := ⟨_, rfl⟩
    obtain ⟨k, rfl, hk, hdr, heq⟩ := hrel
    have hc1 := (bel_some hdr hcA)
    have hc2 := (bel_some hdr hcB)
    have hz2 : w.heap.size + 1 < wo.heap.size := Nat.lt_of_lt_of_le hz1 hdr.size
    have hz3 : w.heap.size < wo.heap.size := by omega
    replace ha := ha.below hdr
    replace hb := hb.below hdr
    clear hcA hcB
    by_cases hlt : k < len
    · obtain ⟨x, hx⟩ : ∃ x, xs[k]? = some x := ⟨_, List.getElem?_eq_getElem (by have := ha.1; omega)⟩
      obtain ⟨y, hy⟩ : ∃ y, ys[k]? = some y := ⟨_, List.getElem?_eq_getElem (by have := hb.1; omega)⟩
      obtain ⟨ga, oa, as0, al0, ac0, as1, al1, ac1, as2, al2, ac2, rfl, ha0, ha1, ha2, ha3, ha4, ab0, ar0, ab1, ar1, ab2, ar2⟩ := ha.2 k x hx
      obtain ⟨gb, ob, bs0, bl0, bc0, bs1, bl1, bc1, bs2, bl2, bc2, rfl, hb0, hb1, hb2, hb3, hb4, bb0, br0, bb1, br1, bb2, br2⟩ := hb.2 k y hy
      have lga : ga < wo.heap.size := cell_lt ha0
      have lgb : gb < wo.heap.size := cell_lt hb0
      have hlt' : (k : Int) < (len : Int) := by omega
      have hk0 : (0 : Int) ≤ (k : Int) := by omega
      have HA := Lib.hid ha; have HB := Lib.hid hb; have HX := Lib.hid hx; have HY := Lib.hid hy; have HE := Lib.hid heq
      have aR0 := Lib.hid ar0; have aR1 := Lib.hid ar1; have aR2 := Lib.hid ar2; have bR0 := Lib.hid br0; have bR1 := Lib.hid br1; have bR2 := Lib.hid br2
      clear ha hb hx hy heq ar0 ar1 ar2 br0 br1 br2
      by_cases hp : x.params = y.params
      · have HP := Lib.hid hp; clear hp
        by_cases hq : al1 = bl1 ∧ x.kind = y.kind ∧ x.a = y.a ∧ al2 = bl2
        · obtain ⟨rfl, hkd, haa, rfl⟩ := hq
          have HK := Lib.hid hkd; have HAA := Lib.hid haa
          have hk1 : (x.kind != y.kind) = false := by simpa using hkd
          have hk2 : (x.a != y.a) = false := by simpa using haa
          have hk1' : decide (x.kind = y.kind) = true := by simpa using hkd
          clear hkd haa
          go_wp2_with (first | (go_at_call 21; refine ((ints_any _ _ _ _ _ _ _ ab0 x.params y.params (aR0.out.below (bel_two _ _ _)) (bR0.out.below (bel_two _ _ _))).mono (Says.at (b' := true) (by simp [HP.out]))).mono ?_; rintro e w' ⟨rfl, q, rfl⟩))
          go_loopw [9] (fun i w' => ∃ j : Nat, i = .int .i64 j ∧ j ≤ al1 ∧ XY wo w' as1 al1 ac1 bs1 bc1 as2 al2 ac2 bs2 bc2 ∧ x.ops.take j = y.ops.take j) (fun i _ => al1 - (intOf i).toNat)
          case atStart => exact ⟨0, rfl, by omega, XY.start _ _ _ _ _ _ _ _ _ _ _ _ _ _ _ _ _ _, rfl⟩
          case round =>
            obtain ⟨w3p, rfl⟩ : ∃ u, u = wr := ⟨_, rfl⟩
            obtain ⟨j, rfl, hj, hXYp, hte⟩ := hrel
            have HXYp := Lib.hid hXYp
            obtain ⟨hw3, hsz3, hx1, hx4, hy1, hy4⟩ := hXYp
            have hRa := aR1.out.below hw3
            have hRb := bR1.out.below hw3
            by_cases hjl : j < al1
            · obtain ⟨oxp, hox⟩ : ∃ z, x.ops[j]? = some z := ⟨_, List.getElem?_eq_getElem (by have := hRa.1; omega)⟩
              obtain ⟨oyp, hoy⟩ : ∃ z, y.ops[j]? = some z := ⟨_, List.getElem?_eq_getElem (by have := hRb.1; omega)⟩
              obtain ⟨agp, aop, aSp0, aLp0, aCp0, rfl, ahp0, ahp1, ahp2, ahp3, ahp4, ahp5, aBp0, arp0⟩ := hRa.2 j oxp hox
              obtain ⟨bgp, bop, bSp0, bLp0, bCp0, rfl, bhp0, bhp1, bhp2, bhp3, bhp4, bhp5, bBp0, brp0⟩ := hRb.2 j oyp hoy
              have hj' : (j : Int) < (al1 : Int) := by omega
              have hj0 : (0 : Int) ≤ (j : Int) := by omega
              have HRA := Lib.hid hRa; have HRB := Lib.hid hRb; have HOX := Lib.hid hox; have HOY := Lib.hid hoy; have HTE := Lib.hid hte; have HW3 := Lib.hid hw3; have aQp0 := Lib.hid arp0; have bQp0 := Lib.hid brp0
              clear hRa hRb hox hoy hte arp0 brp0
              go_wp2_with fail
              go_region_held3 (fun w' => Below w3p.heap.size w3p w' ∧ w'.cell? ⟨wo.heap.size, 1, none⟩ = some (.slice (some ⟨agp, aop, none⟩) al1 ac1) ∧ w'.cell? ⟨wo.heap.size + 1, 1, none⟩ = some (.slice (some ⟨bgp, bop, none⟩) al1 bc1) ∧ w'.cell? ⟨agp, aop + j * 6, none⟩ = some (.int .i64 oxp.code) ∧ w'.cell? ⟨agp, aop + j * 6 + 1, none⟩ = some (.int .i64 oxp.res) ∧ w'.cell? ⟨agp, aop + j * 6 + 2, none⟩ = some (.int .i64 oxp.a) ∧ w'.cell? ⟨agp, aop + j * 6 + 3, none⟩ = some (.int .i64 oxp.b) ∧ w'.cell? ⟨agp, aop + j * 6 + 4, none⟩ = some (.int .u16 oxp.n) ∧ w'.cell? ⟨agp, aop + j * 6 + 5, none⟩ = some (.slice aSp0 aLp0 aCp0) ∧ w'.cell? ⟨bgp, bop + j * 6, none⟩ = some (.int .i64 oyp.code) ∧ w'.cell? ⟨bgp, bop + j * 6 + 1, none⟩ = some (.int .i64 oyp.res) ∧ w'.cell? ⟨bgp, bop + j * 6 + 2, none⟩ = some (.int .i64 oyp.a) ∧ w'.cell? ⟨bgp, bop + j * 6 + 3, none⟩ = some (.int .i64 oyp.b) ∧ w'.cell? ⟨bgp, bop + j * 6 + 4, none⟩ = some (.int .u16 oyp.n) ∧ w'.cell? ⟨bgp, bop + j * 6 + 5, none⟩ = some (.slice bSp0 bLp0 bCp0))
                (first | exact ⟨(Below.refl _ _).drew, hx1, hy1, ahp0, ahp1, ahp2, ahp3, ahp4, ahp5, bhp0, bhp1, bhp2, bhp3, bhp4, bhp5⟩ | go_keep | exact ⟨hS.1.trans (hb'.mono hS.1.size), bel_some hb' hS.2.1, bel_some hb' hS.2.2.1, bel_some hb' hS.2.2.2.1, bel_some hb' hS.2.2.2.2.1, bel_some hb' hS.2.2.2.2.2.1, bel_some hb' hS.2.2.2.2.2.2.1, bel_some hb' hS.2.2.2.2.2.2.2.1, bel_some hb' hS.2.2.2.2.2.2.2.2.1, bel_some hb' hS.2.2.2.2.2.2.2.2.2.1, bel_some hb' hS.2.2.2.2.2.2.2.2.2.2.1, bel_some hb' hS.2.2.2.2.2.2.2.2.2.2.2.1, bel_some hb' hS.2.2.2.2.2.2.2.2.2.2.2.2.1, bel_some hb' hS.2.2.2.2.2.2.2.2.2.2.2.2.2.1, bel_some hb' hS.2.2.2.2.2.2.2.2.2.2.2.2.2.2⟩)
                (first | (go_at_call 22; have hS := ‹Below w3p.heap.size w3p _ ∧ _ ∧ _ ∧ _ ∧ _ ∧ _ ∧ _ ∧ _ ∧ _ ∧ _ ∧ _ ∧ _ ∧ _ ∧ _ ∧ _›; refine (refOp_any _ oxp oyp _ _ _ _ _ _ aBp0 (aQp0.out.below hS.1) (bQp0.out.below hS.1)).mono ?_; rintro e w' ⟨rfl, hb'⟩))
              go_wp2_with fail
              · go_ret
                have hH := ‹Below w3p.heap.size w3p w' ∧ _ ∧ _ ∧ _ ∧ _ ∧ _ ∧ _ ∧ _ ∧ _ ∧ _ ∧ _ ∧ _ ∧ _ ∧ _ ∧ _›
                have hne : (!decide (oxp = oyp)) = true := by assumption
                have hne2 : ¬ x = y := fun e => neq_at' HOX.out HOY.out (by simpa using hne) (by rw [e])
                exact ⟨by rw [decide_eq_false (neq_at' HX.out HY.out hne2)]; rfl, (hB.trans (hdr.mono (by omega))).trans ((HW3.out.trans (hH.1.mono HW3.out.size)).mono (by omega))⟩
              · have hH := ‹Below w3p.heap.size w3p w' ∧ _ ∧ _ ∧ _ ∧ _ ∧ _ ∧ _ ∧ _ ∧ _ ∧ _ ∧ _ ∧ _ ∧ _ ∧ _ ∧ _›
                have hne : (!decide (oxp = oyp)) = false := by assumption
                exact ⟨⟨j + 1, by go_num, by omega, HXYp.out.on hH.1, take_next' HTE.out HOX.out HOY.out (by simpa using hne)⟩, by simp [intOf]; omega⟩
            · have hjg : al1 ≤ j := by omega
              have hjg' : (al1 : Int) ≤ (j : Int) := by omega
              have HEQp : Hid (x.ops = y.ops) := all_taken hte (by have := hRa.1; omega) (by have := hRb.1; omega)
              have HRA := Lib.hid hRa; have HRB := Lib.hid hRb; have HW3p := Lib.hid hw3
              clear hRa hRb hte
              go_wp2_with fail
              go_loopw [11] (fun i w' => ∃ j : Nat, i = .int .i64 j ∧ j ≤ al2 ∧ XY wo w' as1 al1 ac1 bs1 bc1 as2 al2 ac2 bs2 bc2 ∧ x.to.take j = y.to.take j) (fun i _ => al2 - (intOf i).toNat)
              case atStart => exact ⟨0, rfl, by omega, HXYp.out, rfl⟩
              case round =>
                obtain ⟨w3q, rfl⟩ : ∃ u, u = wr := ⟨_, rfl⟩
                obtain ⟨j, rfl, hj, hXYq, hte⟩ := hrel
                have HXYq := Lib.hid hXYq
                obtain ⟨hw3, hsz3, hx1, hx4, hy1, hy4⟩ := hXYq
                have hRa := aR2.out.below hw3
                have hRb := bR2.out.below hw3
                by_cases hjl : j < al2
                · obtain ⟨oxq, hox⟩ : ∃ z, x.to[j]? = some z := ⟨_, List.getElem?_eq_getElem (by have := hRa.1; omega)⟩
                  obtain ⟨oyq, hoy⟩ : ∃ z, y.to[j]? = some z := ⟨_, List.getElem?_eq_getElem (by have := hRb.1; omega)⟩
                  obtain ⟨agq, aoq, aSq0, aLq0, aCq0, rfl, ahq0, ahq1, aBq0, arq0⟩ := hRa.2 j oxq hox
                  obtain ⟨bgq, boq, bSq0, bLq0, bCq0, rfl, bhq0, bhq1, bBq0, brq0⟩ := hRb.2 j oyq hoy
                  have hj' : (j : Int) < (al2 : Int) := by omega
                  have hj0 : (0 : Int) ≤ (j : Int) := by omega
                  have HRA := Lib.hid hRa; have HRB := Lib.hid hRb; have HOX := Lib.hid hox; have HOY := Lib.hid hoy; have HTE := Lib.hid hte; have HW3 := Lib.hid hw3; have aQq0 := Lib.hid arq0; have bQq0 := Lib.hid brq0
                  clear hRa hRb hox hoy hte arq0 brq0
                  go_wp2_with fail
                  go_region_held3 (fun w' => Below w3q.heap.size w3q w' ∧ w'.cell? ⟨wo.heap.size, 4, none⟩ = some (.slice (some ⟨agq, aoq, none⟩) al2 ac2) ∧ w'.cell? ⟨wo.heap.size + 1, 4, none⟩ = some (.slice (some ⟨bgq, boq, none⟩) al2 bc2) ∧ w'.cell? ⟨agq, aoq + j * 2, none⟩ = some (.int .i64 oxq.block) ∧ w'.cell? ⟨agq, aoq + j * 2 + 1, none⟩ = some (.slice aSq0 aLq0 aCq0) ∧ w'.cell? ⟨bgq, boq + j * 2, none⟩ = some (.int .i64 oyq.block) ∧ w'.cell? ⟨bgq, boq + j * 2 + 1, none⟩ = some (.slice bSq0 bLq0 bCq0))
                    (first | exact ⟨(Below.refl _ _).drew, hx4, hy4, ahq0, ahq1, bhq0, bhq1⟩ | go_keep | exact ⟨hS.1.trans (hb'.mono hS.1.size), bel_some hb' hS.2.1, bel_some hb' hS.2.2.1, bel_some hb' hS.2.2.2.1, bel_some hb' hS.2.2.2.2.1, bel_some hb' hS.2.2.2.2.2.1, bel_some hb' hS.2.2.2.2.2.2⟩)
                    (first | (go_at_call 23; have hS := ‹Below w3q.heap.size w3q _ ∧ _ ∧ _ ∧ _ ∧ _ ∧ _ ∧ _›; refine (refEdge_any _ oxq oyq _ _ _ _ _ _ aBq0 (aQq0.out.below hS.1) (bQq0.out.below hS.1)).mono ?_; rintro e w' ⟨rfl, hb'⟩))
                  go_wp2_with fail
                  · go_ret
                    have hH := ‹Below w3q.heap.size w3q w' ∧ _ ∧ _ ∧ _ ∧ _ ∧ _ ∧ _›
                    have hne : (!decide (oxq = oyq)) = true := by assumption
                    have hne2 : ¬ x = y := fun e => neq_at' HOX.out HOY.out (by simpa using hne) (by rw [e])
                    exact ⟨by rw [decide_eq_false (neq_at' HX.out HY.out hne2)]; rfl, (hB.trans (hdr.mono (by omega))).trans ((HW3.out.trans (hH.1.mono HW3.out.size)).mono (by omega))⟩
                  · have hH := ‹Below w3q.heap.size w3q w' ∧ _ ∧ _ ∧ _ ∧ _ ∧ _ ∧ _›
                    have hne : (!decide (oxq = oyq)) = false := by assumption
                    exact ⟨⟨j + 1, by go_num, by omega, HXYq.out.on hH.1, take_next' HTE.out HOX.out HOY.out (by simpa using hne)⟩, by simp [intOf]; omega⟩
                · have hjg : al2 ≤ j := by omega
                  have hjg' : (al2 : Int) ≤ (j : Int) := by omega
                  have HEQq : Hid (x.to = y.to) := all_taken hte (by have := hRa.1; omega) (by have := hRb.1; omega)
                  have HRA := Lib.hid hRa; have HRB := Lib.hid hRb; have HW3q := Lib.hid hw3
                  clear hRa hRb hte
                  go_wp2_with fail
                  exact ⟨⟨k + 1, by go_num, by omega, hdr.trans (HW3q.out.mono hdr.size), take_next' HE.out HX.out HY.out (blk_ext HP.out HEQp.out HK.out HAA.out HEQq.out)⟩, by simp [intOf]; omega⟩
        · have HQ := Lib.hid hq; clear hq
          go_wp2_with (first | (go_at_call 21; refine ((ints_any _ _ _ _ _ _ _ ab0 x.params y.params (aR0.out.below (bel_two _ _ _)) (bR0.out.below (bel_two _ _ _))).mono (Says.at (b' := true) (by simp [HP.out]))).mono ?_; rintro e w' ⟨rfl, q, rfl⟩))
          all_goals first
            | (exfalso; apply HQ.out; refine ⟨?_, ?_, ?_, ?_⟩ <;> (simp_all; done))
            | exact (HQ.out ⟨by omega, by assumption, by assumption, len_eq (by assumption)⟩).elim
            | (go_ret
               have hne : ¬ x = y := fun e => by
                 have e1 : al1 = bl1 := by rw [aR1.out.1, bR1.out.1, e]
                 have e2 : al2 = bl2 := by rw [aR2.out.1, bR2.out.1, e]
                 exact HQ.out ⟨e1, by rw [e], by rw [e], e2⟩
               exact ⟨by rw [decide_eq_false (neq_at' HX.out HY.out hne)]; rfl, (hB.trans (hdr.mono (by omega))).trans ((bel_drewN (bel_two _ _ _) _).mono (by omega))⟩)
      · have HP := Lib.hid hp; clear hp
        go_wp2_with (first | (go_at_call 21; refine ((ints_any _ _ _ _ _ _ _ ab0 x.params y.params (aR0.out.below (bel_two _ _ _)) (bR0.out.below (bel_two _ _ _))).mono (Says.at (b' := false) (by simp [HP.out]))).mono ?_; rintro e w' ⟨rfl, q, rfl⟩))
        go_ret
        have hne : ¬ x = y := fun e => HP.out (by rw [e])
        exact ⟨by rw [decide_eq_false (neq_at' HX.out HY.out hne)]; rfl, (hB.trans (hdr.mono (by omega))).trans ((bel_drewN (bel_two _ _ _) _).mono (by omega))⟩
    · have hge : len ≤ k := by omega
      have hge' : (len : Int) ≤ (k : Int) := by omega
      have HA := Lib.hid ha; have HB := Lib.hid hb; have HE := Lib.hid heq
      clear ha hb heq
      go_wp2_with fail
      go_ret
      exact ⟨by rw [decide_eq_true (all_taken HE.out (by have := HA.out.1; omega) (by have := HB.out.1; omega))]; rfl, hB.trans (hdr.mono (by omega))⟩
set_option maxHeartbeats 1000000 in
theorem refEqual_other (w : World) (xs ys : List Blk) (sa sb : Option Addr) (la lb ca cb : Nat) (h : la ≠ lb) (ha : la = xs.length) (hb : lb = ys.length) :
    Calls Tryz.prog 9 #[.agg #[.slice sa la ca], .agg #[.slice sb lb cb]] w (SaysB (decide (xs = ys)) w) := by
  have hd : ((la : Int) != (lb : Int)) = true := by simp; omega
  have hne : ¬ xs = ys := by rintro rfl; omega
  have H := Lib.hid h; have HA := Lib.hid ha; have HB := Lib.hid hb
  clear h ha hb
  go_enter Tryz.func9, Tryz.ntmps9
  go_wp2
  go_ret
  exact ⟨by rw [decide_eq_false hne]; rfl, bel_two _ _ _⟩
theorem refEqual_any (w : World) (xs ys : List Blk) (sa sb : Option Addr) (la lb ca cb : Nat) (hla : la ≤ 1099511627776) (ha : RBlks w sa la xs) (hb : RBlks w sb lb ys) :
    Calls Tryz.prog 9 #[.agg #[.slice sa la ca], .agg #[.slice sb lb cb]] w (SaysB (decide (xs = ys)) w) := by
  by_cases h : la = lb
  · subst h; exact refEqual_round w xs ys sa sb la ca cb hla ha hb
  · exact refEqual_other w xs ys sa sb la lb ca cb h ha.1 hb.1
end Go.Proofs.YtahljbkaemhpcaaGreat
