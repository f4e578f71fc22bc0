/- The statement's walk. -/
import Derived.Test.YtahljbkaemhpcaaGreatS1
import Derived.Test.YtahljbkaemhpcaaGreatP1
namespace Go.Proofs.YtahljbkaemhpcaaGreat
open Go.RowKit
set_option linter.unusedVariables false
set_option maxRecDepth 100000 in
set_option maxHeartbeats 16000000 in
theorem law_any (w : World) (As Bs : Option Addr) (la ca lb cb : Nat) (q0 q1 q2 : Int) (hla : la ≤ 9223372036854775807) (hlb : lb ≤ 9223372036854775807)
    (hA : ∀ j, j < la → ∃ (g o : Nat) (z : Int), As = some ⟨g, o, none⟩ ∧ w.cell? ⟨g, o + j, none⟩ = some (.int .i64 z)) (hB : ∀ j, j < lb → ∃ (g o : Nat) (z : Int), Bs = some ⟨g, o, none⟩ ∧ w.cell? ⟨g, o + j, none⟩ = some (.int .i64 z)) :
    Calls Tryz.prog 3 #[.slice As la ca, .slice Bs lb cb, .agg #[.int .i64 q0, .int .i64 q1, .int .i64 q2]] w (fun e w' => e = .returned (.bool true) ∧ w.keptBut w' (fun _ => False)) := by
  have hg0 : Grown w (w.alloc (.cells #[.int .i64 q0, .int .i64 q1, .int .i64 q2] 23)) := (Grown.refl w).alloc _ _
  have hq := heap_alloc_new w (.cells #[.int .i64 q0, .int .i64 q1, .int .i64 q2] 23)
  have HA := Lib.hid hA; have HB := Lib.hid hB; have HG0 := Lib.hid hg0; have HQ := Lib.hid hq
  clear hA hB hg0 hq
  go_enter Tryz.func3, Tryz.ntmps3
  go_upto_region 2 with (first
    | (go_at_call 4; (with_reducible refine (sanity_any _).mono ?_); rintro e w1 ⟨rfl, hg1⟩))
  have hk1 : w.keptBut w1 (fun _ => False) := World.keptBut_trans HG0.out.1 hg1.1
  have hi1 : Inp w1.heap.size w1 As la := Inp.grown HA.out ⟨hk1, fun a => (hg1.2.1 a).trans (HG0.out.2.1 a), Nat.le_trans HG0.out.2.2 hg1.2.2⟩
  have hj1 : Inp w1.heap.size w1 Bs lb := Inp.grown HB.out ⟨hk1, fun a => (hg1.2.1 a).trans (HG0.out.2.1 a), Nat.le_trans HG0.out.2.2 hg1.2.2⟩
  have u0 : w1.cell? ⟨w.heap.size, 0, none⟩ = some (.int .i64 q0) := grown_cell hg1 (cell_of HQ.out)
  have u1 : w1.cell? ⟨w.heap.size, 1, none⟩ = some (.int .i64 q1) := grown_cell hg1 (cell_of HQ.out)
  have u2 : w1.cell? ⟨w.heap.size, 2, none⟩ = some (.int .i64 q2) := grown_cell hg1 (cell_of HQ.out)
  have hOq : w.heap.size < w1.heap.size := cell_lt u0
  generalize w.heap.size = Oq at u0 u1 u2 hOq ⊢
  have HK1 := Lib.hid hk1; have HI1 := Lib.hid hi1; have HJ1 := Lib.hid hj1; have U0 := Lib.hid u0; have U1 := Lib.hid u1; have U2 := Lib.hid u2
  have hb1 : (0 : Nat) + 40000 ≤ big := by decide
  clear hk1 hi1 hj1 u0 u1 u2 hg1
  -- the first program
  have hm1 : Calls Tryz.prog 5 #[.slice As la ca] w1 (ProgL w1.heap.size (0 + 40000) w1 w1.heap.size) := made_any w1.heap.size 0 w1 As la ca (WT.none w1) (Nat.le_refl _) hb1 hla HI1.out
  go_upto_region 3 with (first
    | (go_at_call 5; (with_reducible refine hm1.mono ?_); rintro e w2 ⟨fP, nP, fcP, aaP, naP, acP, enP, haP, daP, ndP, dcP, baP, nbP, bcP, rfl, tp, wt, bel, sh⟩))
  have p2 := heap_alloc_new w2 (.cells #[.slice fP nP fcP, .slice aaP naP acP, .int .i64 enP, .int .i64 haP, .slice daP ndP dcP, .slice baP nbP bcP] 29)
  have wt2 := wt.allocOther (.cells #[.slice fP nP fcP, .slice aaP naP acP, .int .i64 enP, .int .i64 haP, .slice daP ndP dcP, .slice baP nbP bcP] 29) (other_typed rfl (fun _ => rfl))
  have bel2 : Below w1.heap.size w1 (w2.alloc (.cells #[.slice fP nP fcP, .slice aaP naP acP, .int .i64 enP, .int .i64 haP, .slice daP ndP dcP, .slice baP nbP bcP] 29)) := bel.alloc bel.size _
  have tp2 := tp.on ((Shape.refl w2).alloc (.cells #[.slice fP nP fcP, .slice aaP naP acP, .int .i64 enP, .int .i64 haP, .slice daP ndP dcP, .slice baP nbP bcP] 29)) (Nat.le_refl _)
  have hO2 : w1.heap.size ≤ w2.heap.size := bel.size
  clear tp wt bel sh
  generalize w2.alloc (.cells #[.slice fP nP fcP, .slice aaP naP acP, .int .i64 enP, .int .i64 haP, .slice daP ndP dcP, .slice baP nbP bcP] 29) = v2 at p2 wt2 bel2 tp2 ⊢
  generalize w2.heap.size = Op at p2 hO2 ⊢
  have hOp : Op < v2.heap.size := heap_lt p2
  have P2 := Lib.hid p2; have WT2 := Lib.hid wt2; have B2 := Lib.hid bel2; have TP2 := Lib.hid tp2; have HJ2 := Lib.hid (HJ1.out.below bel2 bel2.size)
  clear p2 wt2 bel2 tp2
  -- the second program
  clear hm1
  have hm2 : Calls Tryz.prog 5 #[.slice Bs lb cb] v2 (ProgL v2.heap.size (0 + 40000) v2 v2.heap.size) := made_any v2.heap.size 0 v2 Bs lb cb (WT.none v2) (Nat.le_refl _) hb1 hlb HJ2.out
  go_upto_region 4 with (first
    | (go_at_call 5; (with_reducible refine hm2.mono ?_); rintro e w3 ⟨fX, nX, fcX, aaX, naX, acX, enX, haX, daX, ndX, dcX, baX, nbX, bcX, rfl, tp, wt, bel, sh⟩))
  have hB2 : w1.heap.size ≤ v2.heap.size := B2.out.size
  have wt3' := WT2.out.join wt bel hB2 (by decide)
  have p3 := (Below.heap_alloc w3 (.cells #[.slice fX nX fcX, .slice aaX naX acX, .int .i64 enX, .int .i64 haX, .slice daX ndX dcX, .slice baX nbX bcX] 29) _ (Nat.lt_of_lt_of_le hOp bel.size)).trans ((bel.block _ hOp).trans P2.out)
  have x3 := heap_alloc_new w3 (.cells #[.slice fX nX fcX, .slice aaX naX acX, .int .i64 enX, .int .i64 haX, .slice daX ndX dcX, .slice baX nbX bcX] 29)
  have wt3 := wt3'.allocOther (.cells #[.slice fX nX fcX, .slice aaX naX acX, .int .i64 enX, .int .i64 haX, .slice daX ndX dcX, .slice baX nbX bcX] 29) (other_typed rfl (fun _ => rfl))
  have bel3 : Below w1.heap.size w1 (w3.alloc (.cells #[.slice fX nX fcX, .slice aaX naX acX, .int .i64 enX, .int .i64 haX, .slice daX ndX dcX, .slice baX nbX bcX] 29)) := (B2.out.trans (bel.mono hB2)).alloc (Nat.le_trans hB2 bel.size) _
  have tpp3 := (TP2.out.on (shape_below bel) (Nat.le_refl _)).on ((Shape.refl w3).alloc (.cells #[.slice fX nX fcX, .slice aaX naX acX, .int .i64 enX, .int .i64 haX, .slice daX ndX dcX, .slice baX nbX bcX] 29)) (show (0 + 40000 : Nat) ≤ 0 + 40000 by decide)
  have tfx3 := (tp.tf.down hB2).on ((Shape.refl w3).alloc (.cells #[.slice fX nX fcX, .slice aaX naX acX, .int .i64 enX, .int .i64 haX, .slice daX ndX dcX, .slice baX nbX bcX] 29)) (Nat.le_refl _)
  have hO3 : Op < w3.heap.size := Nat.lt_of_lt_of_le hOp bel.size
  clear tp wt bel sh wt3'
  generalize w3.alloc (.cells #[.slice fX nX fcX, .slice aaX naX acX, .int .i64 enX, .int .i64 haX, .slice daX ndX dcX, .slice baX nbX bcX] 29) = v3 at p3 x3 wt3 bel3 tpp3 tfx3 ⊢
  generalize w3.heap.size = Ox at x3 hO3 ⊢
  have hOx : Ox < v3.heap.size := heap_lt x3
  have hB3 : w1.heap.size ≤ v3.heap.size := bel3.size
  have a0 : v3.cell? ⟨Op, 0, none⟩ = some (.slice fP nP fcP) := cell_of p3
  have a1 : v3.cell? ⟨Op, 1, none⟩ = some (.slice aaP naP acP) := cell_of p3
  have a2 : v3.cell? ⟨Op, 2, none⟩ = some (.int .i64 enP) := cell_of p3
  have a3 : v3.cell? ⟨Op, 3, none⟩ = some (.int .i64 haP) := cell_of p3
  have a4 : v3.cell? ⟨Op, 4, none⟩ = some (.slice daP ndP dcP) := cell_of p3
  have a5 : v3.cell? ⟨Op, 5, none⟩ = some (.slice baP nbP bcP) := cell_of p3
  have s0 : v3.cell? ⟨Oq, 0, none⟩ = some (.int .i64 q0) := (bel3.cell (p := ⟨Oq, 0, none⟩) hOq).trans U0.out
  have s1 : v3.cell? ⟨Oq, 1, none⟩ = some (.int .i64 q1) := (bel3.cell (p := ⟨Oq, 1, none⟩) hOq).trans U1.out
  have s2 : v3.cell? ⟨Oq, 2, none⟩ = some (.int .i64 q2) := (bel3.cell (p := ⟨Oq, 2, none⟩) hOq).trans U2.out
  have hb3 : (0 : Nat) + 40000 + 2 ≤ big := by decide
  have P3 := Lib.hid p3; have X3 := Lib.hid x3; have WT3 := Lib.hid wt3; have B3 := Lib.hid bel3; have TPP3 := Lib.hid tpp3; have TFX3 := Lib.hid tfx3
  clear p3 x3 wt3 bel3 tpp3 tfx3
  -- the third program
  clear hm2
  have hm3 := (turned_any w1.heap.size (0 + 40000) v3 fP nP fcP aaP naP acP enP haP daP ndP dcP baP nbP bcP q0 q1 q2 WT3.out hB3 hb3 TPP3.out).mono ProgK.lit
  go_upto_region 5 with (first
    | (go_at_call 6; (with_reducible refine hm3.mono ?_); rintro e w4 ⟨fY, nY, fcY, aaY, naY, acY, enY, haY, daY, ndY, dcY, baY, nbY, bcY, rfl, tp, wt, bel, sh, kp⟩))
  have hB4 : w1.heap.size ≤ w4.heap.size := Nat.le_trans hB3 bel.size
  have wt4 := wt.allocOther (.cells #[.slice fY nY fcY, .slice aaY naY acY, .int .i64 enY, .int .i64 haY, .slice daY ndY dcY, .slice baY nbY bcY] 29) (other_typed rfl (fun _ => rfl))
  have sha : Shape w4 (w4.alloc (.cells #[.slice fY nY fcY, .slice aaY naY acY, .int .i64 enY, .int .i64 haY, .slice daY ndY dcY, .slice baY nbY bcY] 29)) := (Shape.refl w4).alloc (.cells #[.slice fY nY fcY, .slice aaY naY acY, .int .i64 enY, .int .i64 haY, .slice daY ndY dcY, .slice baY nbY bcY] 29)
  have hp4 := kp _ _ _ P3.out
  have hx4 := kp _ _ _ X3.out
  have p4 := (Below.heap_alloc w4 (.cells #[.slice fY nY fcY, .slice aaY naY acY, .int .i64 enY, .int .i64 haY, .slice daY ndY dcY, .slice baY nbY bcY] 29) _ (heap_lt hp4)).trans hp4
  have x4 := (Below.heap_alloc w4 (.cells #[.slice fY nY fcY, .slice aaY naY acY, .int .i64 enY, .int .i64 haY, .slice daY ndY dcY, .slice baY nbY bcY] 29) _ (heap_lt hx4)).trans hx4
  have y4 := heap_alloc_new w4 (.cells #[.slice fY nY fcY, .slice aaY naY acY, .int .i64 enY, .int .i64 haY, .slice daY ndY dcY, .slice baY nbY bcY] 29)
  have sp := (TPP3.out.tf.on sh (show (0 + 40000 : Nat) ≤ 0 + 40000 + 2 by decide)).on sha (Nat.le_refl _)
  have sx := (TFX3.out.on sh (show (0 + 40000 : Nat) ≤ 0 + 40000 + 2 by decide)).on sha (Nat.le_refl _)
  have sy := tp.tf.on sha (Nat.le_refl _)
  have bel4 : Below w1.heap.size w1 (w4.alloc (.cells #[.slice fY nY fcY, .slice aaY naY acY, .int .i64 enY, .int .i64 haY, .slice daY ndY dcY, .slice baY nbY bcY] 29)) := (B3.out.trans bel).alloc hB4 _
  have hkS : w.keptBut (w4.alloc (.cells #[.slice fY nY fcY, .slice aaY naY acY, .int .i64 enY, .int .i64 haY, .slice daY ndY dcY, .slice baY nbY bcY] 29)) (fun _ => False) := World.keptBut_trans HK1.out (bel4.frame _)
  have hBS : w1.heap.size ≤ (w4.alloc (.cells #[.slice fY nY fcY, .slice aaY naY acY, .int .i64 enY, .int .i64 haY, .slice daY ndY dcY, .slice baY nbY bcY] 29)).heap.size := bel4.size
  clear hm3 a0 a1 a2 a3 a4 a5 s0 s1 s2 tp wt bel sh kp hp4 hx4 sha bel4 P2 WT2 B2 TP2 HJ2 HI1 HJ1 P3 X3 WT3 B3 TPP3 TFX3 U0 U1 U2 HK1 HA HB HG0 HQ
  generalize w4.alloc (.cells #[.slice fY nY fcY, .slice aaY naY acY, .int .i64 enY, .int .i64 haY, .slice daY ndY dcY, .slice baY nbY bcY] 29) = ws at p4 x4 y4 sp sx sy wt4 hkS hBS ⊢
  generalize w4.heap.size = Oy at y4 ⊢
  generalize w1.heap.size = B at *
  have hKK : (0 + 40000 + 2 : Nat) ≤ big := hb3
  have hnP : nP ≤ 1099511627776 := big_small hKK sp.1
  have hnX : nX ≤ 1099511627776 := big_small hKK sx.1
  have hnY : nY ≤ 1099511627776 := big_small hKK sy.1
  generalize (0 + 40000 + 2 : Nat) = K at *
  have cP : ws.cell? ⟨Op, 0, none⟩ = some (.slice fP nP fcP) := cell_of p4
  have cX : ws.cell? ⟨Ox, 0, none⟩ = some (.slice fX nX fcX) := cell_of x4
  have cY : ws.cell? ⟨Oy, 0, none⟩ = some (.slice fY nY fcY) := cell_of y4
  have CP := Lib.hid cP; have CX := Lib.hid cX; have CY := Lib.hid cY; have SP := Lib.hid sp; have SX := Lib.hid sx; have SY := Lib.hid sy; have WS := Lib.hid wt4; have HKS := Lib.hid hkS
  have HKK : Hid (K ≤ big) := hKK
  have HBS : Hid (B ≤ ws.heap.size) := hBS
  clear cP cX cY sp sx sy wt4 hkS p4 x4 y4 hBS hKK
  go_wp2_with fail
  go_loopw [11] (fun i wr => ∃ q : Nat, i = .int .i64 q ∧ q ≤ nP ∧ TB B K ws wr) (fun i _ => nP - (intOf i).toNat)
  case atStart => exact ⟨0, rfl, by omega, TB.refl WS.out⟩
  case round =>
    obtain ⟨wo, rfl⟩ : ∃ u, u = wr := ⟨_, rfl⟩
    obtain ⟨q, rfl, hq, hT⟩ := hrel
    have dP : wo.cell? ⟨Op, 0, none⟩ = some (.slice fP nP fcP) := bel_some hT.1 CP.out
    by_cases hlt : q < nP
    · have hlt' : (q : Int) < (nP : Int) := by omega
      have hq0 : (0 : Int) ≤ (q : Int) := by omega
      obtain ⟨gF, Ab, nb, kb, rfl, cF, sF⟩ := func_at hT.2 (hT.sl SP.out) hlt
      have tbF : TB B K wo (wo.alloc (.cells #[.slice Ab nb kb] 34)) := ⟨(Below.refl _ _).alloc (Nat.le_refl _) _, hT.2.alloc _ 34 (func_typed sF)⟩
      have oF : (wo.alloc (.cells #[.slice Ab nb kb] 34)).cell? ⟨wo.heap.size, 0, none⟩ = some (.slice Ab nb kb) := cell_of (heap_alloc_new wo (.cells #[.slice Ab nb kb] 34))
      have HT := Lib.hid hT; have SF := Lib.hid sF
      clear hT sF
      go_upto_region 9 with fail
      generalize wo.alloc (.cells #[.slice Ab nb kb] 34) = wF at tbF oF ⊢
      generalize wo.heap.size = OF at oF ⊢
      have HTF := Lib.hid (HT.out.trans tbF); have SFF := Lib.hid (tbF.sl SF.out); have TF := Lib.hid tbF
      have C8 := Lib.hid (own_fun HTF.out.2 (Nat.le_trans HBS.out HTF.out.1.size) HKK.out SFF.out)
      clear tbF dP cF
      go_region_held3 (fun w' => TB B K wF w' ∧ w'.cell? ⟨OF, 0, none⟩ = some (.slice Ab nb kb))
        (first | exact ⟨(TB.refl HTF.out.2).drew, oF⟩ | go_keep | exact ⟨hS.1.trans hb', bel_some hb'.1 hS.2⟩)
        (first
          | (go_at_call 8; have hS := ‹TB B K wF _ ∧ _›; refine (C8.out _ hS.1).mono ?_; rintro e w8 ⟨G, cg, rfl, hb', hC7⟩; have C7 := Lib.hid hC7; clear hC7)
          | (go_at_call 7; have hS := ‹TB B K wF _ ∧ _›; refine C7.out.mono ?_; rintro e w9 ⟨rfl, hb'⟩))
      go_wp2_with fail
      have hH := ‹TB B K wF w9 ∧ _›
      go_loopw [13] (fun i wr => ∃ k : Nat, i = .int .i64 k ∧ k ≤ nX ∧ TB B K wF wr) (fun i _ => nX - (intOf i).toNat)
      case atStart => exact ⟨0, rfl, by omega, hH.1⟩
      case round =>
        obtain ⟨wv, rfl⟩ : ∃ u, u = wr := ⟨_, rfl⟩
        obtain ⟨k, rfl, hk, hV⟩ := hrel
        have hTV := HTF.out.trans hV
        have vF : wv.cell? ⟨OF, 0, none⟩ = some (.slice Ab nb kb) := bel_some hV.1 oF
        have vX : wv.cell? ⟨Ox, 0, none⟩ = some (.slice fX nX fcX) := bel_some hTV.1 CX.out
        by_cases hlk : k < nX
        · have hlk' : (k : Int) < (nX : Int) := by omega
          have hk0 : (0 : Int) ≤ (k : Int) := by omega
          obtain ⟨gX, Ax, nx, kx, rfl, cX, sX⟩ := func_at hTV.2 (hTV.sl SX.out) hlk
          obtain ⟨b, D1, D2, _⟩ := two_funs hTV.2 HKK.out (hV.sl SFF.out) sX
          have HV := Lib.hid hV; have HTV := Lib.hid hTV; have E1 := Lib.hid D1; have E2 := Lib.hid D2
          clear hV hTV sX D1 D2
          cases b
          all_goals
            go_upto_region 14 with fail
            go_region_held3 (fun w' => TB B K wv w' ∧ w'.cell? ⟨OF, 0, none⟩ = some (.slice Ab nb kb) ∧ w'.cell? ⟨Ox, 0, none⟩ = some (.slice (some ⟨gX, 0, none⟩) nX fcX) ∧ w'.cell? ⟨gX, k, none⟩ = some (.slice Ax nx kx))
              (first | exact ⟨(TB.refl HTV.out.2).drew, vF, vX, cX⟩ | go_keep | exact ⟨hS.1.trans hb', bel_some hb'.1 hS.2.1, bel_some hb'.1 hS.2.2.1, bel_some hb'.1 hS.2.2.2⟩)
              (first
                | (go_at_call 7; have hS := ‹TB B K wv _ ∧ _ ∧ _ ∧ _›; refine (E1.out _ hS.1).mono ?_; rintro e w9 ⟨rfl, hb'⟩)
                | (go_at_call 9; have hS := ‹TB B K wv _ ∧ _ ∧ _ ∧ _›; refine (E2.out _ hS.1).mono ?_; rintro e w10 ⟨rfl, hb'⟩))
            go_wp2_with fail
            have hH := ‹TB B K wv w10 ∧ _ ∧ _ ∧ _›
            exact ⟨⟨k + 1, by go_num, by omega, HV.out.trans hH.1⟩, by simp [intOf]; omega⟩
        · have hgk : nX ≤ k := by omega
          have hgk' : (nX : Int) ≤ (k : Int) := by omega
          have HV := Lib.hid hV
          clear hV hTV
          go_wp2_with fail
          go_loopw [14] (fun i wr => ∃ k : Nat, i = .int .i64 k ∧ k ≤ nY ∧ TB B K wF wr) (fun i _ => nY - (intOf i).toNat)
          case atStart => exact ⟨0, rfl, by omega, HV.out⟩
          case round =>
            obtain ⟨wu, rfl⟩ : ∃ u, u = wr := ⟨_, rfl⟩
            obtain ⟨j, rfl, hj, hU⟩ := hrel
            have hTU := HTF.out.trans hU
            have zF : wu.cell? ⟨OF, 0, none⟩ = some (.slice Ab nb kb) := bel_some hU.1 oF
            have zY : wu.cell? ⟨Oy, 0, none⟩ = some (.slice fY nY fcY) := bel_some hTU.1 CY.out
            by_cases hlj : j < nY
            · have hlj' : (j : Int) < (nY : Int) := by omega
              have hj0 : (0 : Int) ≤ (j : Int) := by omega
              obtain ⟨gY, Ay, ny, ky, rfl, cY, sY⟩ := func_at hTU.2 (hTU.sl SY.out) hlj
              obtain ⟨b, D1, D2, D3⟩ := two_funs hTU.2 HKK.out (hU.sl SFF.out) sY
              have HU := Lib.hid hU; have HTU := Lib.hid hTU; have E1 := Lib.hid D1; have E2 := Lib.hid D2; have E3 := Lib.hid D3
              clear hU hTU sY D1 D2 D3 vF vX
              cases b
              all_goals
                go_upto_region 19 with fail
                go_region_held3 (fun w' => TB B K wu w' ∧ w'.cell? ⟨OF, 0, none⟩ = some (.slice Ab nb kb) ∧ w'.cell? ⟨Oy, 0, none⟩ = some (.slice (some ⟨gY, 0, none⟩) nY fcY) ∧ w'.cell? ⟨gY, j, none⟩ = some (.slice Ay ny ky))
                  (first | exact ⟨(TB.refl HTU.out.2).drew, zF, zY, cY⟩ | go_keep | exact ⟨hS.1.trans hb', bel_some hb'.1 hS.2.1, bel_some hb'.1 hS.2.2.1, bel_some hb'.1 hS.2.2.2⟩)
                  (first
                    | (go_at_call 9; have hS := ‹TB B K wu _ ∧ _ ∧ _ ∧ _›; refine (E2.out _ hS.1).mono ?_; rintro e w10 ⟨rfl, hb'⟩)
                    | (go_at_call 7; have hS := ‹TB B K wu _ ∧ _ ∧ _ ∧ _›; refine (E1.out _ hS.1).mono ?_; rintro e w9 ⟨rfl, hb'⟩)
                    | (go_at_call 7; have hS := ‹TB B K wu _ ∧ _ ∧ _ ∧ _›; refine (E3.out _ hS.1).mono ?_; rintro e w9 ⟨rfl, hb'⟩))
                go_wp2_with fail
                have hH := ‹TB B K wu w10 ∧ _ ∧ _ ∧ _›
                exact ⟨⟨j + 1, by go_num, by omega, HU.out.trans hH.1⟩, by simp [intOf]; omega⟩
            · have hgj : nY ≤ j := by omega
              have hgj' : (nY : Int) ≤ (j : Int) := by omega
              have HU := Lib.hid hU; have HTU := Lib.hid hTU
              clear hU hTU
              go_wp2_with fail
              exact ⟨⟨q + 1, by go_num, by omega, HTU.out⟩, by simp [intOf]; omega⟩
    · have hge : nP ≤ q := by omega
      have hge' : (nP : Int) ≤ (q : Int) := by omega
      have HT := Lib.hid hT
      clear hT
      go_wp2_with fail
      go_ret
      exact ⟨rfl, World.keptBut_trans HKS.out (HT.out.1.frame _)⟩
end Go.Proofs.YtahljbkaemhpcaaGreat
