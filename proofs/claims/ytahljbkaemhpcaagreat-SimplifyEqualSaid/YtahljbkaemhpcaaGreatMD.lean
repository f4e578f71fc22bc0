/- The maker: loop walked. -/
import Derived.Test.YtahljbkaemhpcaaGreatMB
namespace Go.Proofs.YtahljbkaemhpcaaGreat
open Go.RowKit
set_option linter.unusedVariables false
theorem Same.ext {d d' d'' : Mk} (h : Same d d') (hc : d.cur < d.PL.length) : Ext d d' := (Ext.refl hc).same h
theorem Ext.more {d d' d'' : Mk} {n : Nat} (h : Ext d d') (h1 : d''.PL = d'.PL ++ [n]) (h2 : d''.cur = d'.cur) (h3 : d''.nv = d'.nv) : Ext d d'' := by
  obtain ⟨⟨l, hl⟩, hc, hn⟩ := h
  exact ⟨⟨l ++ [n], by rw [h1, hl, List.append_assoc]⟩, by rw [h1, h2]; simp; omega, by rw [h3]; exact hn⟩
/-- Two edges without arguments were built. -/
theorem afterB2 {c : Cx} {K : Nat} {w0 w : World} {d : Mk} {a b : Int} (h : MK c K w d) (hf : Fr c w0 w) (hK : K + 2 ≤ big) :
    ∀ w2, w2 = w.alloc (.cells #[.int .i64 a, .slice none 0 0, .int .i64 b, .slice none 0 0] 49) → MK c (K + 2) w2 d ∧ Fr c w0 w2 ∧ SlV c.B (K + 2) w2 49 2 (.slice (some ⟨w.heap.size, 0, none⟩) 2 2) 2 := by
  rintro w2 rfl
  have hk := h.more (Nat.le_add_right K 2) hK
  have t1 := hk.wt.alloc #[.int .i64 a, .slice none 0 0, .int .i64 b, .slice none 0 0] 49 (by
    intro j ck hl v hv
    match j, hl, hv with
    | 0, hl, hv | 2, hl, hv => cases hl; cases hv; exact ⟨_, rfl⟩
    | 1, hl, hv | 3, hl, hv => cases hl; cases hv; exact fits_nil ..)
  exact ⟨hk.alloc _ t1, hf.alloc h.size _, newRow h.size (by simp) (by omega)⟩
theorem MK.params {c : Cx} {K j n : Nat} {w : World} {d : Mk} (h : MK c K w d) (hj : d.PL[j]? = some n) (hi : 0 < n) : ∃ (gB cB gP cP : Nat), d.bl = .slice (some ⟨gB, 0, none⟩) d.PL.length cB ∧ w.cell? ⟨gB, j * 5, none⟩ = some (.slice (some ⟨gP, 0, none⟩) n cP) ∧ ∀ i, i < n → ∃ z : Int, w.cell? ⟨gP, i, none⟩ = some (.int .i64 z) := by
  obtain ⟨g, cc, v, e1, e2, e3⟩ := h.pls j n hj
  obtain ⟨_, ⟨_, e⟩ | ⟨g', c', cs, rfl, h1, h2, h3, h4⟩⟩ := e3
  · omega
  · refine ⟨g, cc, g', c', e1, e2, fun i hi => ?_⟩
    have hlt : i < cs.size := by omega
    obtain ⟨z, hz⟩ := (h.wt g' cs 3 _ h1 h3 i .num rfl).2 _ (Array.getElem?_eq_getElem hlt)
    exact ⟨z, by rw [cell_of h3, Array.getElem?_eq_getElem hlt, hz]⟩
theorem MK.setCurZ {c : Cx} {K b : Nat} {z : Int} {w : World} {d : Mk} (h : MK c K w d) (hz : z = (b : Int)) : MK c K (w.setCell ⟨c.m, 5, none⟩ (.int .i64 z)) { d with cur := b } := hz ▸ h.setCur
set_option maxRecDepth 100000 in
set_option maxHeartbeats 8000000 in
theorem loop_good (c : Cx) (deep N : Nat) (hd2 : deep + 1 ≤ 2) (hpt : Good c 14 #[.pointer (some ⟨c.m, 0, none⟩), .int .i64 deep] N) :
    Good c 39 #[.pointer (some ⟨c.m, 0, none⟩), .int .i64 ((deep + 1 : Nat) : Int)] (N + 60) := by
  intro K w d h hp hK hcur
  have hst : St c w d K w := St.start h
  have HP := Lib.hid hp; have HK : Hid (K + (N + 60) ≤ big) := hK; have H := Lib.hid h
  have hK1 : K + 1 ≤ big := by omega
  have hK2 : K + 1 + 3 ≤ big := by omega
  have hK3 : K + 1 + 3 + 4 ≤ big := by omega
  have hK4 : K + 1 + 3 + 4 + 5 ≤ big := by omega
  have hK5 : K + 1 + 3 + 4 + 5 + 1 ≤ big := by omega
  have hK6 : K + 1 + 3 + 4 + 5 + 1 + 1 ≤ big := by omega
  have hK7 : K + 1 + 3 + 4 + 5 + 1 + 1 + 2 ≤ big := by omega
  clear h hp hK
  go_enter Tryz.func39, Tryz.ntmps39
  go_upto_region 6 with (first
    | (go_at_call 12; (with_reducible refine (take_st hst hK1 5 (by decide) (by decide)).mono ?_); rintro e w1 ⟨r1, a1, b1, rfl, h1⟩)
    | (go_at_call 40; (with_reducible refine (number_st h1 hK2 hcur _).mono ?_); rintro e w2 ⟨r2, rfl, h2⟩)
    | (go_at_call 15; (with_reducible refine (any_st c w w2 d _ h2 hK3 hcur).mono ?_); rintro e w3 ⟨r3, rfl, h3⟩; obtain ⟨d3, mk3, fr3, sm3⟩ := h3)
    | (go_at_call 13; (with_reducible refine (block2 mk3 hK4).mono ?_); rintro e w4 ⟨d4, rfl, mk4, hPL4, hcu4, hnv4, hva4, fr4⟩)
    | (go_at_call 13; (with_reducible refine (block0 mk4 hK5).mono ?_); rintro e w5 ⟨d5, rfl, mk5, hPL5, hcu5, hnv5, hva5, fr5⟩)
    | (go_at_call 13; (with_reducible refine (block0 mk5 hK6).mono ?_); rintro e w6 ⟨d6, rfl, mk6, hPL6, hcu6, hnv6, hva6, fr6⟩; have ex6 := (((sm3.ext (d'' := d3) hcur).more hPL4 hcu4 hnv4).more hPL5 hcu5 hnv5).more hPL6 hcu6 hnv6; obtain ⟨mk7, fr7, sv7⟩ := afterJ (n := 2) (b := d3.PL.length) mk6 (((fr3.trans fr4).trans fr5).trans fr6) hK7 (cs := #[.int .i64 r2, .int .i64 r3]) (by simp) rfl (by decide) _ rfl; have hcur6 := ex6.curOk; have MK7 := Lib.hid mk7; have FR7 := Lib.hid fr7; have SV7 := Lib.hid sv7; clear mk7 fr7 sv7)
    | (go_at_call 16; (with_reducible refine (end_mk c _ _ d6 MK7.out hcur6 _ _ _ _ _ SV7.out).mono ?_); rintro e w8 ⟨rfl, mk8, fr8⟩))
  have HK8 : Hid (K + 18 + N + 20 ≤ big) := by show K + 18 + N + 20 ≤ big; have := HK.out; omega
  have MK8 : MK c (K + 18) w8 d6 := mk8.more (by omega) (by have := HK.out; omega)
  have FR8 := Lib.hid (FR7.out.trans fr8)
  have EX6 := Lib.hid ex6
  have hL3 : d6.PL.length = d3.PL.length + 3 := by rw [hPL6, hPL5, hPL4]; simp
  have hL0 : d6.PL[d3.PL.length]? = some 2 := by rw [hPL6, hPL5, hPL4]; simp
  clear mk8 fr8 ex6 hPL4 hPL5 hPL6 hcu4 hcu5 hcu6 hnv4 hnv5 hnv6 hva4 hva5 hva6 MK7 FR7 SV7 mk3 mk4 mk5 mk6 fr3 fr4 fr5 fr6 h1 h2 sm3 hcur6
  generalize d3.PL.length = L at hL3 hL0 ⊢
  have f5 := MK8.free 5
  have m5 : w8.cell? ⟨c.m, 5, none⟩ = some (.int .i64 d6.cur) := by rw [MK8.cell 5]; rfl
  have mkA := MK8.setCur (b := L)
  have frA := FR8.out.setM MK8 5 (.int .i64 L)
  have exA := EX6.out.setCur (b := L) (by omega)
  have hLb : L + 2 ≤ 1099511627776 := by
    have h1 := MK8.bls.1
    have h2 := MK8.K
    have : big = 1073741824 := rfl
    omega
  go_upto_region 7 with fail
  generalize hdA : ({ d6 with cur := L } : Mk) = dA at mkA exA
  have hLA : dA.PL.length = L + 3 := by rw [← hdA]; exact hL3
  have hLA0 : dA.PL[L]? = some 2 := by rw [← hdA]; exact hL0
  generalize w8.setCell ⟨c.m, 5, none⟩ (.int .i64 L) = wA at mkA frA ⊢
  obtain ⟨gB, cB, gP, cP, hbl, hp1, hp2⟩ := mkA.params hLA0 (by decide)
  obtain ⟨z0, hz0⟩ := hp2 0 (by decide)
  obtain ⟨z1, hz1⟩ := hp2 1 (by decide)
  obtain ⟨A6, k6, hv6⟩ := mkA.vals.form
  have t7 : wA.cell? ⟨c.m, 7, none⟩ = some (.slice A6 dA.nv k6) := by rw [mkA.cell 7, ← hv6]; rfl
  have t4 : wA.cell? ⟨c.m, 4, none⟩ = some (.slice (some ⟨gB, 0, none⟩) (L + 3) cB) := by rw [mkA.cell 4, ← hLA, ← hbl]; rfl
  have hJi : (L : Int) < ((L + 3 : Nat) : Int) := by omega
  have hJi' : (L : Int) < (L : Int) + 3 := by omega
  have hJ0 : (0 : Int) ≤ (L : Int) := by omega
  have hKf : K + 18 + 1 ≤ big := by have := HK8.out; omega
  have hKg : K + 18 + 1 ≤ 34359738368 := by have : big = 1073741824 := rfl; omega
  have hwa := (mkA.drew.wt.alloc _ 3 (int_typed z1))
  have hsv : SlV c.B (K + 18) (wA.drew.alloc (.cells #[.int .i64 z1] 3)) 3 1 (.slice A6 dA.nv k6) dA.nv := (hv6 ▸ mkA.vals).on ((Shape.refl wA).drew.alloc _) (Nat.le_refl _)
  have hnvb : dA.nv ≤ K + 18 := mkA.vals.1
  have hx2 : SlV c.B (K + 18) (wA.drew.alloc (.cells #[.int .i64 z1] 3)) 3 1 (.slice (some ⟨wA.heap.size, 0, none⟩) 1 1) 1 := newRow (w := wA.drew) mkA.size (Nat.le_refl 1) (by omega)
  have hsz : c.B ≤ wA.heap.size := mkA.size
  have t7a : (wA.alloc (.cells #[.int .i64 z1] 3)).cell? ⟨c.m, 7, none⟩ = some (.slice A6 dA.nv k6) := (cell_alloc (heap_lt mkA.blk)).trans t7
  have HMA := Lib.hid mkA; have HFA := Lib.hid frA; have HEA := Lib.hid exA; have HV6 := Lib.hid hv6
  clear mkA frA exA hv6 m5 f5 hbl hLA0 hdA hp2 MK8 FR8
  go_upto_region 8 with fail
  go_cut [] (fun wx => ∃ v, MK c (K + 18 + 1) wx { dA with vals := v, nv := dA.nv + 1 } ∧ Fr c w wx)
  case first =>
    go_region_law (first
      | (refine step_append_el (w := wA.drew.alloc (.cells #[.int .i64 z1] 3)) (P := Tryz.prog) (B := c.B) (K := K + 18) (K' := K + 18 + 1) (n := dA.nv) (m := 1) rfl (.tmp 54) (.tmp 66) rfl el22 hwa rfl rfl hsv hx2 (by omega) (by omega) hKg (by simp; omega) ?_; intro v9 w9 happ; have hsvA : SlV c.B (K + 18) wA.drew 3 1 (.slice A6 dA.nv k6) dA.nv := HV6.out ▸ HMA.out.drew.vals; obtain ⟨A9, c9, rfl, mk9, fr9, sv9, own9, _⟩ := afterA (c := c) (K := K + 18) (k := dA.nv) (w0 := w) (w2 := wA.drew) (w9 := w9) (A := A6) (ca := k6) (e := 3) (sz := 1) (by decide) (by decide) HMA.out.drew hKf HFA.out.drew hsvA (by have := HMA.out.vpa; rw [HV6.out] at this; exact this) (.inl (.inl rfl)) H.out.size happ; have q9 : w9.cell? ⟨c.m, 7, none⟩ = some dA.vals := (by rw [mk9.cell 7]; rfl); have f9 : w9.frozen? ⟨c.m, 7, none⟩ = false := mk9.free 7; have MK9 := Lib.hid mk9; have FR9 := Lib.hid fr9; have SV9 := Lib.hid sv9; have OWN9 := Lib.hid own9; clear happ mk9 fr9 sv9 own9))
    all_goals (try go_wp2_with fail)
    all_goals go_meet
    all_goals exact ⟨_, MK9.out.setM (d' := { dA with vals := .slice A9 (dA.nv + 1) c9, nv := dA.nv + 1 }) (by simp [mkCells]) rfl rfl MK9.out.at_ MK9.out.next MK9.out.left0 MK9.out.left1 rfl rfl SV9.out OWN9.out, FR9.out.setM MK9.out _ _⟩
  case rest =>
    obtain ⟨vB, mkB, frB⟩ := hcut
    have exB : Ext d { dA with vals := vB, nv := dA.nv + 1 } := HEA.out.cutV (by have := HEA.out.2.2; omega)
    generalize hdB : ({ dA with vals := vB, nv := dA.nv + 1 } : Mk) = dB at mkB exB
    have hLB : dB.PL.length = L + 3 := by rw [← hdB]; exact hLA
    have hcurB := exB.curOk
    have hKC : K + 18 + 1 + 2 ≤ big := by have := HK8.out; omega
    obtain ⟨mkC, frC, svC⟩ := afterB2 (a := (L : Int) + 1) (b := (L : Int) + 2) mkB frB hKC _ rfl
    obtain ⟨A7, k7, hv7⟩ := mkB.vals.form
    have HMC := Lib.hid mkC; have HFC := Lib.hid frC; have HSC := Lib.hid svC; have HEB := Lib.hid exB; have HV7 := Lib.hid hv7
    clear mkB frB mkC frC svC exB hv7 hdB t7 t4 hp1 hz0 hz1 t7a hwa hsv hx2 hsz
    go_upto_region 11 with (first
      | (go_at_call 16; (with_reducible refine (end_mk c _ _ dB HMC.out hcurB _ _ _ _ _ HSC.out).mono ?_); rintro e wD ⟨rfl, mkD, frD⟩; have m7 : wD.cell? ⟨c.m, 7, none⟩ = some (.slice A7 dB.nv k7) := (by rw [mkD.cell 7, ← HV7.out]; rfl)))
    have hLb1 : L + 1 < dB.PL.length := by omega
    have mkE := mkD.setCurZ (b := L + 1) (z := (L : Int) + 1) (by omega)
    have frE := (HFC.out.trans frD).setM mkD 5 (.int .i64 ((L : Int) + 1))
    have exE := HEB.out.setCur hLb1
    have f5 := mkD.free 5
    have m5 : wD.cell? ⟨c.m, 5, none⟩ = some (.int .i64 dB.cur) := by rw [mkD.cell 5]; rfl
    have hcall := hpt _ _ _ mkE (HP.out.on frE) (by have := HK8.out; omega) exE.curOk
    have e1 : IntKind.i64.wrap ((deep : Int) + 1 - 1) = (deep : Int) := by rw [Int.add_sub_cancel]; exact IntWalk.i64_in _ (by omega)
    have e2 : IntKind.i64.wrap (deep : Int) = (deep : Int) := IntWalk.i64_in _ (by omega)
    clear mkE
    have hKG : K + 18 + 1 + 2 + N + 3 ≤ big := by have := HK8.out; omega
    have hKH : K + 18 + 1 + 2 + N + 3 + 3 ≤ big := by have := HK8.out; omega
    have hKI : K + 18 + 1 + 2 + N + 3 + 3 + 4 ≤ big := by have := HK8.out; omega
    have hKJ : K + 18 + 1 + 2 + N + 3 + 3 + 4 + 2 ≤ big := by have := HK8.out; omega
    generalize hdE : ({ dB with cur := L + 1 } : Mk) = dE at hcall exE
    have hnvE : dE.nv = dB.nv := by rw [← hdE]
    have hLE : dE.PL.length = L + 3 := by rw [← hdE]; exact hLB
    clear hdE
    go_upto_region 13 with (first
      | (go_at_call 14; (with_reducible refine hcall.mono ?_); rintro e wF ⟨rfl, dF, mkF, frF, exF⟩))
    have hcurF := exF.curOk
    have HFF := Lib.hid (frE.trans frF); have HEF := Lib.hid (exE.trans exF)
    have hnvF : dB.nv ≤ dF.nv := by rw [← hnvE]; exact exF.2.2
    have hLF : L + 2 < dF.PL.length := by have := exF.len; omega
    clear hcall m5 f5 frE exE frF exF
    go_upto_region 16 with (first
      | (go_at_call 40; (with_reducible refine (number_st (St.start mkF) hKG hcurF _).mono ?_); rintro e wG ⟨rG, rfl, hG⟩)
      | (go_at_call 89; (with_reducible refine (emit_plain hG hKH hcurF _ _ _ _ _).mono ?_); rintro e wH ⟨rH, rfl, hH⟩)
      | (go_at_call 15; (with_reducible refine (any_st c wF wH dF _ hH hKI hcurF).mono ?_); rintro e wI ⟨rI, rfl, hI⟩; obtain ⟨dI, mkI, frI, smI⟩ := hI; obtain ⟨mkJ, frJ, svJ⟩ := afterJ (n := 2) (b := L) mkI frI hKJ (cs := #[.int .i64 rH, .int .i64 rI]) (by simp) rfl (by decide) _ rfl; have hcurI : dI.cur < dI.PL.length := (by rw [smI.1, smI.2.1]; exact hcurF); have MKJ := Lib.hid mkJ; have FRJ := Lib.hid frJ; have SVJ := Lib.hid svJ; clear mkJ frJ svJ mkI frI)
      | (go_at_call 16; (with_reducible refine (end_mk c _ _ dI MKJ.out hcurI _ _ _ _ _ SVJ.out).mono ?_); rintro e wL ⟨rfl, mkL, frL⟩))
    have hle : dB.nv ≤ dI.nv := Nat.le_trans hnvF smI.2.2
    have HFL := Lib.hid ((HFF.out.trans FRJ.out).trans frL)
    have HEL := Lib.hid (HEF.out.same smI)
    have hLL : L + 2 < dI.PL.length := by rw [smI.1]; exact hLF
    obtain ⟨A9, k9, hv9⟩ := mkL.vals.form
    have t9 : wL.cell? ⟨c.m, 7, none⟩ = some (.slice A9 dI.nv k9) := by rw [mkL.cell 7, ← hv9]; rfl
    have f9 := mkL.free 7
    have hcap : dI.nv ≤ k9 ∧ (A9 = none → k9 = 0) := by
      obtain ⟨_, ⟨e, e2⟩ | ⟨g', c', cs', e, _, h3, _⟩⟩ := mkL.vals
      · rw [hv9] at e; injection e with e1 e3 e4; exact ⟨by omega, fun _ => e4⟩
      · rw [hv9] at e; cases e; exact ⟨h3, fun h => by cases h⟩
    have hA9 : A9 = none ∨ ∃ g', A9 = some ⟨g', 0, none⟩ := by
      obtain ⟨_, ⟨e, e2⟩ | ⟨g', c', cs', e, _, h3, _⟩⟩ := mkL.vals
      · rw [hv9] at e; injection e with e1 e3 e4; exact .inl e1
      · rw [hv9] at e; cases e; exact .inr ⟨_, rfl⟩
    have s1 : (0 : Int) ≤ (dB.nv : Int) := by omega
    have s2 : (dB.nv : Int) ≤ (k9 : Int) := by omega
    have mkM := mkL.cutV hv9 rfl hle
    have frM := HFL.out.setM mkL 7 (.slice A9 dB.nv k9)
    have f5 := mkM.free 5
    have m5 : (wL.setCell ⟨c.m, 7, none⟩ (.slice A9 dB.nv k9)).cell? ⟨c.m, 5, none⟩ = some (.int .i64 dI.cur) := by rw [mkM.cell 5]; rfl
    have hfin : Hid (RetX c w d (K + (N + 60)) (.returned (.tuple #[])) ((wL.setCell ⟨c.m, 7, none⟩ (.slice A9 dB.nv k9)).setCell ⟨c.m, 5, none⟩ (.int .i64 ((L : Int) + 2)))) :=
      ⟨rfl, _, (mkM.setCurZ (b := L + 2) (z := (L : Int) + 2) (by omega)).more (by omega) HK.out, frM.setM mkM _ _, (HEL.out.cutV (by exact HEB.out.2.2)).setCur hLL⟩
    have HMM := Lib.hid mkM
    clear mkM frM mkL hv9
    obtain ⟨hc1, hc2⟩ := hcap
    generalize dB.nv = nv at *
    rcases hA9 with rfl | ⟨g', rfl⟩
    · have := hc2 rfl
      subst this
      have hnv0' : nv = 0 := by omega
      subst hnv0'
      go_wp2_with fail
      go_end0
      exact hfin.out
    · go_wp2_with fail
      go_end0
      exact hfin.out
theorem Good.more {c : Cx} {f : FuncId} {args : Array Value} {N N' : Nat} (h : Good c f args N) (hN : N ≤ N') : Good c f args N' := by
  intro K w d hm hp hK hcur
  refine (h K w d hm hp (by omega) hcur).mono ?_
  rintro e w' ⟨rfl, d', a1, a2, a3⟩
  exact ⟨rfl, d', a1.more (by omega) hK, a2, a3⟩
end Go.Proofs.YtahljbkaemhpcaaGreat
