/- The maker: choice walked. -/
import Derived.Test.YtahljbkaemhpcaaGreatMB
namespace Go.Proofs.YtahljbkaemhpcaaGreat
open Go.RowKit
set_option linter.unusedVariables false
def Tod (c : Cx) (K : Nat) (w : World) (d : Mk) (k : Nat) (A : Option Addr) (ca : Nat) (wr : World) : Prop :=
  ∃ d1, MK c (K + 4 + 2 * k) wr d1 ∧ Fr c w wr ∧ Ext d d1 ∧ Tos c w (K + 4 + 2 * k) d1.PL.length wr A k ca
set_option maxRecDepth 100000 in
set_option maxHeartbeats 8000000 in
theorem choice_good (c : Cx) (deep N : Nat) (hd2 : deep + 1 ≤ 2) (hpt : Good c 14 #[.pointer (some ⟨c.m, 0, none⟩), .int .i64 deep] N) (n : Nat) (h2 : 2 ≤ n) (h4 : n ≤ 4) :
    Good c 38 #[.pointer (some ⟨c.m, 0, none⟩), .int .i64 ((deep + 1 : Nat) : Int), .int .i64 (n : Int)] (4 * N + 60) := by
  intro K w d h hp hK hcur
  have hK4 : K + 4 ≤ big := by omega
  have hst : St c w d K w := St.start h
  have HP := Lib.hid hp; have HK : Hid (K + (4 * N + 60) ≤ big) := hK; have H := Lib.hid h
  clear h hp hK
  go_enter Tryz.func38, Tryz.ntmps38
  go_wp2_with (first
    | (go_at_call 15; (with_reducible refine (any_st c w w d K hst hK4 hcur).mono ?_); rintro e w1 ⟨rc, rfl, hs1⟩))
  have hstart : Hid (Tod c K w d 0 none 0 w1) := by
    obtain ⟨d1, mk1, fr1, sm1⟩ := hs1
    exact ⟨d1, mk1, fr1, (Ext.refl hcur).same sm1, tosNil _ _ _ _ _⟩
  clear hs1 hst
  go_loopw [8, 7] (fun i s7 wr => ∃ (k : Nat) (A : Option Addr) (ca : Nat), i = .int .i64 k ∧ s7 = .slice A k ca ∧ k ≤ n ∧ Tod c K w d k A ca wr) (fun i _ _ => n - (intOf i).toNat)
  case atStart => exact ⟨0, none, 0, rfl, rfl, by omega, hstart.out⟩
  case round =>
    obtain ⟨k, A, ca, rfl, rfl, hk, hT⟩ := hrel
    obtain ⟨d1, mk1, fr1, ex1, to1⟩ := hT
    by_cases hlt : k < n
    · have hlt' : (k : Int) < (n : Int) := by omega
      have hKk : K + 4 + 2 * k + 1 ≤ big := by have := HK.out; omega
      have hKk2 : K + 4 + 2 * k + 1 + 1 ≤ big := by have := HK.out; omega
      have hKb : K + 4 + 2 * k + 1 + 1 ≤ 34359738368 := by have : big = 1073741824 := rfl; omega
      have HF1 := Lib.hid fr1; have HE1 := Lib.hid ex1; have HT1 := Lib.hid to1
      clear fr1 ex1 to1
      go_wp2_with (first
        | (go_at_call 13; (with_reducible refine (block0 mk1 hKk).mono ?_); rintro e w2 ⟨d2, rfl, mk2, hPL, hcu, hnv, hva, fr2⟩; have hx2 : SlV c.B (K + 4 + 2 * k + 1) (w2.alloc (.cells #[.int .i64 d1.PL.length, .slice none 0 0] 49)) 49 2 (.slice (some ⟨w2.heap.size, 0, none⟩) 1 1) 1 := (newRow mk2.size (Nat.le_refl 2) (by omega)); have to2 : Tos c w (K + 4 + 2 * k + 1) (d1.PL.length + 1) w2 A k ca := HT1.out.on fr2 (Nat.le_succ _) (Nat.le_succ _); have sv3 : SlV c.B (K + 4 + 2 * k + 1) (w2.alloc (.cells #[.int .i64 d1.PL.length, .slice none 0 0] 49)) 49 2 (.slice A k ca) k := to2.1.on ((Shape.refl _).alloc _) (Nat.le_refl _); have hwa := mk2.wt.alloc _ 49 (edge_typed (b := d1.PL.length) (nilV c.B (K + 4 + 2 * k + 1) w2 3 1)); have hsz := mk2.size; have HM2 := Lib.hid mk2; have HF2 := Lib.hid (HF1.out.trans fr2); have HT2 := Lib.hid to2; have HE2 : Hid (Ext d d2) := ⟨by obtain ⟨l, hl⟩ := HE1.out.1; exact ⟨l ++ [0], by rw [hPL, hl, List.append_assoc]⟩, by rw [hPL, hcu]; have := HE1.out.2.1; simp; omega, by rw [hnv]; exact HE1.out.2.2⟩; have HPL := Lib.hid hPL; clear mk1 mk2 fr2 to2 hPL hcu hnv hva)
        | (at_builtin; refine wpList_append_el (w := w2.alloc (.cells #[.int .i64 d1.PL.length, .slice none 0 0] 49)) (P := Tryz.prog) (B := c.B) (K := K + 4 + 2 * k + 1) (K' := K + 4 + 2 * k + 1 + 1) (n := k) (m := 1) rfl (.tmp 20) (.tmp 24) rfl el42 hwa rfl rfl sv3 hx2 (by omega) (by omega) hKb (by simp; omega) ?_; intro v9 w9 happ; have happ2 : App c.B (K + 4 + 2 * k + 1 + 1) (w2.alloc (.cells #[.int .i64 d1.PL.length, .slice none 0 0] 49)) w9 49 2 (.slice A k ca) (.slice (some ⟨w2.heap.size, 0, none⟩) 1 1) k 1 v9 := happ; obtain ⟨A9, c9, rfl, mk9, fr9, sv9, own9, _⟩ := afterA (c := c) (K := K + 4 + 2 * k + 1) (k := k) (w0 := w) (w2 := w2) (w9 := w9) (A := A) (ca := ca) (e := 49) (sz := 2) (by decide) (by decide) HM2.out hKk2 HF2.out HT2.out.1 (by intro hh; have := HT2.out.2.1 _ hh; have := H.out.paLt; omega) (.inr HT2.out.2.1) H.out.size happ2; have HC9 : Hid (Tod c K w d (k + 1) A9 c9 w9) := ⟨d2, mk9, fr9, HE2.out, (tosMore HT2.out (Nat.lt_succ_self _) HF2.out.below.size happ2).on (Fr.refl _ _) (Nat.le_refl _) (by rw [HPL.out]; simp)⟩; clear happ happ2 mk9 fr9 sv9 own9))
      exact ⟨⟨k + 1, A9, c9, rfl, rfl, hlt, HC9.out⟩, by show n - ((k : Int) + 1).toNat < n - ((k : Int)).toNat; omega⟩
    · have hkn : k = n := by omega
      subst hkn
      have hK3 : K + 4 + 2 * k + 3 ≤ big := by have := HK.out; omega
      have HF1 := Lib.hid fr1; have HE1 := Lib.hid ex1; have HT1 := Lib.hid to1
      clear fr1 ex1 to1
      go_upto_if 32 with (first
        | (go_at_call 13; (with_reducible refine (block1 mk1 hK3).mono ?_); rintro e w2 ⟨d2, rfl, mk2, hPL, hcu, hnv, hva, fr2⟩))
      have HE2 : Hid (Ext d d2) := ⟨by obtain ⟨l, hl⟩ := HE1.out.1; exact ⟨l ++ [1], by rw [hPL, hl, List.append_assoc]⟩, by rw [hPL, hcu]; have := HE1.out.2.1; simp; omega, by rw [hnv]; exact HE1.out.2.2⟩
      have HJ : Hid (d2.PL[d1.PL.length]? = some 1) := by show d2.PL[d1.PL.length]? = some 1; rw [hPL]; simp
      have HT2 : Hid (Tos c w (K + 4 + 2 * k + 3) d2.PL.length w2 A k ca) := HT1.out.on fr2 (by omega) (by rw [hPL]; simp)
      have HF2 := Lib.hid (HF1.out.trans fr2)
      have HM2 : Hid (MK c (K + 4 + 2 * k + 3) w2 d2) := mk2
      have HLJ : Hid (d1.PL.length < d2.PL.length) := by show _ < d2.PL.length; rw [hPL]; simp
      have hLJ : d1.PL.length ≤ 1099511627776 := by have := HM2.out.bls.1; have := HLJ.out; have := HM2.out.K; have : big = 1073741824 := rfl; omega
      clear fr2 mk2 hPL hcu hnv hva mk1
      generalize d1.PL.length = J at HJ HLJ hLJ
      go_cut [] (fun wx => MK c (K + 4 + 2 * k + 3) wx d2 ∧ Fr c w wx ∧ Tos c w (K + 4 + 2 * k + 3) d2.PL.length wx A k ca ∧ ∃ z, wx.heap[w2.heap.size]? = some (.cells #[.int .i64 z, .int .i64 rc, .slice A k ca] 44 (0, 0)))
      case first =>
        obtain ⟨a1, a2, a3⟩ := afterT (cs := #[.int .i64 2, .int .i64 rc, .slice A k ca]) HM2.out HF2.out
        obtain ⟨_, a4, _⟩ := afterT (cs := #[.int .i64 2, .int .i64 rc, .slice A k ca]) HM2.out (Fr.refl c w2)
        have hB2 := HM2.out.size
        obtain ⟨b1, b2, b3⟩ := afterU (i := 0) a1 a2 a3 hB2 HF2.out.below.size (.int .i64 3)
        obtain ⟨_, b4, _⟩ := afterU (i := 0) a1 a4 a3 hB2 (Nat.le_refl _) (.int .i64 3)
        have A1 := Lib.hid a1; have A2 := Lib.hid a2; have A3 := Lib.hid a3; have A4 := Lib.hid a4; have B1 := Lib.hid b1; have B2 := Lib.hid b2; have B3 := Lib.hid b3; have B4 := Lib.hid b4
        have cl : (w2.alloc (.cells #[.int .i64 2, .int .i64 rc, .slice A k ca] 44)).cell? ⟨w2.heap.size, 0, none⟩ = some (.int .i64 2) := cell_of a3
        have cf : (w2.alloc (.cells #[.int .i64 2, .int .i64 rc, .slice A k ca] 44)).frozen? ⟨w2.heap.size, 0, none⟩ = false := free_of a3
        clear a1 a2 a3 a4 b1 b2 b3 b4
        generalize w2.alloc (.cells #[.int .i64 2, .int .i64 rc, .slice A k ca] 44) = wx at A1 A2 A3 A4 B1 B2 B3 B4 cl cf ⊢
        go_wp2_with fail
        all_goals go_meet
        · exact ⟨B1.out, B2.out, HT2.out.on B4.out (Nat.le_refl _) (Nat.le_refl _), 3, B3.out⟩
        · exact ⟨A1.out, A2.out, HT2.out.on A4.out (Nat.le_refl _) (Nat.le_refl _), 2, A3.out⟩
      case rest =>
        obtain ⟨mk3, fr3, to3, z, hb3⟩ := hcut
        have t0 : wc.cell? ⟨w2.heap.size, 0, none⟩ = some (.int .i64 z) := cell_of hb3
        have t1 : wc.cell? ⟨w2.heap.size, 1, none⟩ = some (.int .i64 rc) := cell_of hb3
        have t2 : wc.cell? ⟨w2.heap.size, 2, none⟩ = some (.slice A k ca) := cell_of hb3
        have HT3 := Lib.hid to3; have HF3 := Lib.hid fr3
        clear to3 fr3 hb3
        obtain ⟨Av, kv, hvv⟩ := mk3.vals.form
        have HVV := Lib.hid hvv
        clear hvv
        have hcur2 := HE2.out.curOk
        have hto3 := HT3.out.1
        go_wp2_with (first
          | (go_at_call 16; (with_reducible refine (end_mk c _ wc d2 mk3 hcur2 z rc A k ca hto3).mono ?_); rintro e w4 ⟨rfl, mk4, fr4⟩; have m7 : w4.cell? ⟨c.m, 7, none⟩ = some (.slice Av d2.nv kv) := (by rw [mk4.cell 7, ← HVV.out]; rfl); have HF4 := Lib.hid (HF3.out.trans fr4); have HT4 : Hid (Tos c w (K + 4 + 2 * k + 3) d2.PL.length w4 A k ca) := (HT3.out.on fr4 (Nat.le_refl _) (Nat.le_refl _)); have HM4 := Lib.hid mk4; clear mk4 fr4))
        have HS2 : Hid (To2 c (K + 4 + 2 * k + 3) N w d k A ca J d2.nv 0 w4) := ⟨d2, HM4.out.more (by omega) (by have := HM4.out.K; omega), HF4.out, HE2.out, rfl, HJ.out, HT4.out.on (Fr.refl _ _) (by omega) (Nat.le_refl _)⟩
        have hnv0 : d.nv ≤ d2.nv := HE2.out.2.2
        clear mk3 t0 t1 t2 hto3 hcur2 m7
        generalize hnv2 : d2.nv = nv at HS2 hnv0
        go_loopw [12] (fun i wr => ∃ q : Nat, i = .int .i64 q ∧ q ≤ k ∧ To2 c (K + 4 + 2 * k + 3) N w d k A ca J nv q wr) (fun i _ => k - (intOf i).toNat)
        case atStart => exact ⟨0, rfl, by omega, HS2.out⟩
        case round =>
          obtain ⟨q, rfl, hq, hT⟩ := hrel
          by_cases hql : q < k
          · obtain ⟨d3, mk3, fr3, ex3, hnv3, hj3, to3⟩ := hT
            obtain ⟨g, b, rfl, hcb, hbL⟩ := to3.2.2 q hql
            have hql' : (q : Int) < (k : Int) := by omega
            have hq0 : (0 : Int) ≤ (q : Int) := by omega
            have f5 := mk3.free 5
            have m5 : wr.cell? ⟨c.m, 5, none⟩ = some (.int .i64 d3.cur) := by rw [mk3.cell 5]; rfl
            have hKq : K + 4 + 2 * k + 3 + q * (N + 8) + (N + 8) ≤ big := by
              have h1 := HK.out
              have h5 : q * (N + 8) + (N + 8) ≤ 4 * (N + 8) := by
                have : (q + 1) * (N + 8) ≤ 4 * (N + 8) := Nat.mul_le_mul_right _ (by omega)
                rw [Nat.add_mul] at this; omega
              omega
            have hKq2 : K + 4 + 2 * k + 3 + (q + 1) * (N + 8) ≤ big := by rw [Nat.add_mul]; omega
            have e1 : IntKind.i64.wrap ((deep : Int) + 1 - 1) = (deep : Int) := by rw [Int.add_sub_cancel]; exact IntWalk.i64_in _ (by omega)
            have e2 : IntKind.i64.wrap (deep : Int) = (deep : Int) := IntWalk.i64_in _ (by omega)
            have mkA := mk3.setCur (b := b)
            have frA := fr3.setM mk3 5 (.int .i64 b)
            have toA := to3.on ((Fr.refl c wr).setM mk3 5 (.int .i64 b)) (Nat.le_refl _) (Nat.le_refl _)
            have exA := ex3.setCur hbL
            have HMA := Lib.hid mkA; have HFA := Lib.hid frA; have HTA := Lib.hid toA; have HEA := Lib.hid exA
            have HJ3 := Lib.hid hj3
            clear mk3 fr3 to3 ex3 hj3 mkA frA toA exA
            have hcall := hpt _ _ _ HMA.out (HP.out.on HFA.out) (by omega) HEA.out.curOk
            have hK12 : K + 4 + 2 * k + 3 + q * (N + 8) + N + 1 ≤ big := by omega
            have hK15 : K + 4 + 2 * k + 3 + q * (N + 8) + N + 1 + 4 ≤ big := by omega
            have hK17 : K + 4 + 2 * k + 3 + q * (N + 8) + N + 1 + 4 + 2 ≤ big := by omega
            go_upto_region 17 with (first
              | (go_at_call 14; (with_reducible refine hcall.mono ?_); rintro e w5 ⟨rfl, d5, mk5, fr5, ex5⟩))
            have HFR5 := Lib.hid (HFA.out.trans fr5)
            have HTO5 : Hid (Tos c w (K + 4 + 2 * k + 3 + q * (N + 8)) d5.PL.length w5 (some ⟨g, 0, none⟩) k ca) := HTA.out.on fr5 (Nat.le_refl _) ex5.len
            have HEX5 := Lib.hid (HEA.out.trans ex5)
            have HJ5 : Hid (d5.PL[J]? = some 1) := ex5.at (d := { d3 with cur := b }) HJ3.out
            have hnv5 : nv ≤ d5.nv := by rw [← hnv3]; exact ex5.2.2
            have hcur5 : d5.cur < d5.PL.length := ex5.curOk
            clear hcall m5 f5 hcb fr5 ex5
            go_cut [65] (fun s wx => ∃ bb : Bool, s = .bool bb ∧ St c w5 d5 (K + 4 + 2 * k + 3 + q * (N + 8) + N + 1) wx)
            case first =>
              go_wp2_with (first
                | (go_at_call 12; (with_reducible refine (take_st (St.start mk5) hK12 12 (by decide) (by decide)).mono ?_); rintro e w6 ⟨r6, a6, b6, rfl, h6⟩))
              all_goals go_meet
              all_goals exact ⟨_, rfl, h6⟩
            case rest =>
              obtain ⟨bb, rfl, h6⟩ := hcut
              go_upto_if 65 with fail
              go_cut [] (fun wx => St c w5 d5 (K + 4 + 2 * k + 3 + q * (N + 8) + N + 7) wx)
              case first =>
                cases bb
                · go_wp2_with (first
                    | (go_at_call 15; (with_reducible refine (any_st c w5 wc d5 _ h6 hK15 hcur5).mono ?_); rintro e w7 ⟨r7, rfl, h7⟩; obtain ⟨d7, mk7, fr7, sm7⟩ := h7; obtain ⟨mk8, fr8, sv8⟩ := afterJ (b := J) mk7 fr7 hK17 (n := 1) (cs := #[.int .i64 r7]) (by simp) rfl (by decide) _ rfl; have hcur7 : d7.cur < d7.PL.length := (by rw [sm7.1, sm7.2.1]; exact hcur5); have MK8 := Lib.hid mk8; have FR8 := Lib.hid fr8; have SV8 := Lib.hid sv8; clear mk7 mk8 fr7 fr8 sv8)
                    | (go_at_call 16; (with_reducible refine (end_mk c _ _ d7 MK8.out hcur7 _ _ _ _ _ SV8.out).mono ?_); rintro e w9 ⟨rfl, mk9, fr9⟩))
                  go_meet
                  exact St.up FR8.out sm7 mk9 fr9 ⟨rfl, rfl, Nat.le_refl _⟩
                · go_wp2_with (first
                    | (go_at_call 15; (with_reducible refine (any_st c w5 wc d5 _ h6 hK15 hcur5).mono ?_); rintro e w7 ⟨r7, rfl, h7⟩; obtain ⟨d7, mk7, fr7, sm7⟩ := h7; have hcur7 : d7.cur < d7.PL.length := (by rw [sm7.1, sm7.2.1]; exact hcur5))
                    | (go_at_call 16; (with_reducible refine (end_mk c _ _ d7 mk7 hcur7 _ _ _ _ _ (nilV _ _ _ _ _)).mono ?_); rintro e w9 ⟨rfl, mk9, fr9⟩))
                  go_meet
                  exact (St.up fr7 sm7 mk9 fr9 ⟨rfl, rfl, Nat.le_refl _⟩).more (by omega) (by omega)
              case rest =>
                obtain ⟨d6, mk6, fr6, sm6⟩ := hcut
                obtain ⟨A6, k6, hv6⟩ := mk6.vals.form
                have t7 : wc.cell? ⟨c.m, 7, none⟩ = some (.slice A6 d6.nv k6) := by rw [mk6.cell 7, ← hv6]; rfl
                have f7 := mk6.free 7
                have hle : nv ≤ d6.nv := Nat.le_trans hnv5 sm6.2.2
                have hcap : d6.nv ≤ k6 ∧ (A6 = none → k6 = 0) := by
                  obtain ⟨_, ⟨e, e2⟩ | ⟨g', c', cs', e, _, h3, _⟩⟩ := mk6.vals
                  · rw [hv6] at e; injection e with e1 e3 e4; exact ⟨by omega, fun _ => e4⟩
                  · rw [hv6] at e; cases e; exact ⟨h3, fun h => by cases h⟩
                have hA6 : A6 = none ∨ ∃ g', A6 = some ⟨g', 0, none⟩ := by
                  obtain ⟨_, ⟨e, e2⟩ | ⟨g', c', cs', e, _, h3, _⟩⟩ := mk6.vals
                  · rw [hv6] at e; injection e with e1 e3 e4; exact .inl e1
                  · rw [hv6] at e; cases e; exact .inr ⟨_, rfl⟩
                have s1 : (0 : Int) ≤ (nv : Int) := by omega
                have s2 : (nv : Int) ≤ (k6 : Int) := by omega
                have hfin : Hid (To2 c (K + 4 + 2 * k + 3) N w d k (some ⟨g, 0, none⟩) ca J nv (q + 1) (wc.setCell ⟨c.m, 7, none⟩ (.slice A6 nv k6))) :=
                  To2.close (mk6.cutV hv6 rfl hle) hKq2 ((HFR5.out.trans fr6).setM mk6 _ _) ((HEX5.out.same sm6).cutV hnv0) rfl (by show d6.PL[J]? = _; rw [sm6.1]; exact HJ5.out) (HTO5.out.on (fr6.setM mk6 _ _) (Nat.le_refl _) (by show d5.PL.length ≤ d6.PL.length; rw [sm6.1]; exact Nat.le_refl _))
                clear mk6 fr6 hv6 h6
                obtain ⟨hc1, hc2⟩ := hcap
                rcases hA6 with rfl | ⟨g', rfl⟩
                · have := hc2 rfl
                  subst this
                  have hnv0' : nv = 0 := by omega
                  subst hnv0'
                  go_wp2_with fail
                  exact ⟨⟨q + 1, rfl, by omega, hfin.out⟩, by show k - ((q : Int) + 1).toNat < k - ((q : Int)).toNat; omega⟩
                · go_wp2_with fail
                  exact ⟨⟨q + 1, rfl, by omega, hfin.out⟩, by show k - ((q : Int) + 1).toNat < k - ((q : Int)).toNat; omega⟩
          · have hqk : q = k := by omega
            subst hqk
            obtain ⟨d3, mk3, fr3, ex3, hnv3, hj3, to3⟩ := hT
            have f5 := mk3.free 5
            have m5 : wr.cell? ⟨c.m, 5, none⟩ = some (.int .i64 d3.cur) := by rw [mk3.cell 5]; rfl
            have hKq : K + 4 + 2 * q + 3 + q * (N + 8) + 1 ≤ K + (4 * N + 60) := by
              have h5 : q * (N + 8) ≤ 4 * (N + 8) := Nat.mul_le_mul_right _ (by omega)
              omega
            have hJL : J < d3.PL.length := (List.getElem?_eq_some_iff.1 hj3).1
            have mkA := mk3.setCur (b := J)
            have frA := fr3.setM mk3 5 (.int .i64 J)
            have exA := ex3.setCur hJL
            have hjA : ({ d3 with cur := J } : Mk).PL[J]? = some 1 := hj3
            clear mk3 fr3 to3 ex3 hj3
            go_upto_region 22 with fail
            generalize hdA : ({ d3 with cur := J } : Mk) = dA at mkA exA hjA
            generalize wr.setCell ⟨c.m, 5, none⟩ (.int .i64 J) = wA at mkA frA ⊢
            obtain ⟨gB, cB, gP, cP, zp, hbl, hp1, hp2⟩ := mkA.param hjA (i := 0) (by decide)
            obtain ⟨A6, k6, hv6⟩ := mkA.vals.form
            have t7 : wA.cell? ⟨c.m, 7, none⟩ = some (.slice A6 dA.nv k6) := by rw [mkA.cell 7, ← hv6]; rfl
            have t4 : wA.cell? ⟨c.m, 4, none⟩ = some (.slice (some ⟨gB, 0, none⟩) dA.PL.length cB) := by rw [mkA.cell 4, ← hbl]; rfl
            have hJL' : J < dA.PL.length := (List.getElem?_eq_some_iff.1 hjA).1
            have hJi : (J : Int) < (dA.PL.length : Int) := by omega
            have hJ0 : (0 : Int) ≤ (J : Int) := by omega
            have hKf : K + 4 + 2 * q + 3 + q * (N + 8) + 1 ≤ big := Nat.le_trans hKq HK.out
            have hKg : K + 4 + 2 * q + 3 + q * (N + 8) + 1 ≤ 34359738368 := by have : big = 1073741824 := rfl; omega
            have hwa := (mkA.drew.wt.alloc _ 3 (int_typed zp))
            have hsv : SlV c.B (K + 4 + 2 * q + 3 + q * (N + 8)) (wA.drew.alloc (.cells #[.int .i64 zp] 3)) 3 1 (.slice A6 dA.nv k6) dA.nv := (hv6 ▸ mkA.vals).on ((Shape.refl wA).drew.alloc _) (Nat.le_refl _)
            have hnvb : dA.nv ≤ K + 4 + 2 * q + 3 + q * (N + 8) := mkA.vals.1
            have hx2 : SlV c.B (K + 4 + 2 * q + 3 + q * (N + 8)) (wA.drew.alloc (.cells #[.int .i64 zp] 3)) 3 1 (.slice (some ⟨wA.heap.size, 0, none⟩) 1 1) 1 := newRow (w := wA.drew) mkA.size (Nat.le_refl 1) (by omega)
            have hsz : c.B ≤ wA.heap.size := mkA.size
            have t7a : (wA.alloc (.cells #[.int .i64 zp] 3)).cell? ⟨c.m, 7, none⟩ = some (.slice A6 dA.nv k6) := (cell_alloc (heap_lt mkA.blk)).trans t7
            have HMA := Lib.hid mkA; have HFA := Lib.hid frA; have HEA := Lib.hid exA; have HV6 := Lib.hid hv6
            clear mkA frA exA hv6 m5 f5 hbl hjA hdA
            go_region_law (first
              | (refine step_append_el (w := wA.drew.alloc (.cells #[.int .i64 zp] 3)) (P := Tryz.prog) (B := c.B) (K := K + 4 + 2 * q + 3 + q * (N + 8)) (K' := K + 4 + 2 * q + 3 + q * (N + 8) + 1) (n := dA.nv) (m := 1) rfl (.tmp 97) (.tmp 109) rfl el22 hwa rfl rfl hsv hx2 (by omega) (by omega) hKg (by simp; omega) ?_; intro v9 w9 happ; have hsvA : SlV c.B (K + 4 + 2 * q + 3 + q * (N + 8)) wA.drew 3 1 (.slice A6 dA.nv k6) dA.nv := HV6.out ▸ HMA.out.drew.vals; obtain ⟨A9, c9, rfl, mk9, fr9, sv9, own9, _⟩ := afterA (c := c) (K := K + 4 + 2 * q + 3 + q * (N + 8)) (k := dA.nv) (w0 := w) (w2 := wA.drew) (w9 := w9) (A := A6) (ca := k6) (e := 3) (sz := 1) (by decide) (by decide) HMA.out.drew hKf HFA.out.drew hsvA (by have := HMA.out.vpa; rw [HV6.out] at this; exact this) (.inl (.inl rfl)) H.out.size happ; have q9 : w9.cell? ⟨c.m, 7, none⟩ = some dA.vals := (by rw [mk9.cell 7]; rfl); have f9 : w9.frozen? ⟨c.m, 7, none⟩ = false := mk9.free 7; have MK9 := Lib.hid mk9; have FR9 := Lib.hid fr9; have SV9 := Lib.hid sv9; have OWN9 := Lib.hid own9; clear happ mk9 fr9 sv9 own9))
            all_goals (try go_wp2_with fail)
            all_goals go_end0
            all_goals exact ⟨rfl, { dA with vals := .slice A9 (dA.nv + 1) c9, nv := dA.nv + 1 }, (MK9.out.setM (d' := { dA with vals := .slice A9 (dA.nv + 1) c9, nv := dA.nv + 1 }) (by simp [mkCells]) rfl rfl MK9.out.at_ MK9.out.next MK9.out.left0 MK9.out.left1 rfl rfl SV9.out OWN9.out).more hKq HK.out, FR9.out.setM MK9.out _ _, HEA.out.cutV (by have := HEA.out.2.2; omega)⟩
end Go.Proofs.YtahljbkaemhpcaaGreat
