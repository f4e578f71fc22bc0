/- A program is made: one function, the round of the third loop. -/
import Derived.Test.YtahljbkaemhpcaaGreatP5
import Derived.Deep.CutBlock
namespace Go.Proofs.YtahljbkaemhpcaaGreat
open Go.RowKit
set_option linter.unusedVariables false
/-- A part of a function's code: 0, 1: of a sequence; 2: what a block or a loop holds. -/
def partOf : Code → List Nat → Code
  | c, [] => c
  | .seq a _, 0 :: p => partOf a p
  | .seq _ b, 1 :: p => partOf b p
  | .block _ c, 2 :: p => partOf c p
  | .loop c, 2 :: p => partOf c p
  | c, _ => c
/-- The part ends as it should, and in no other way. -/
def OnlyTo (K : Act → World → Prop) : Exit → Act → World → Prop
  | .normal, a, w => K a w
  | _, _, _ => False
theorem onlyTo {P : Program} {c : Code} {K : Act → World → Prop} {Q' : Exit → Act → World → Prop} {a : Act} {w : World} (h : c.wp P (OnlyTo K) a w) : c.wp P (Exit.then K Q') a w := by
  refine Code.wp_mono (fun e a w hh => ?_) h
  cases e with
  | normal => exact hh
  | _ => exact hh.elim
set_option maxRecDepth 100000 in
set_option maxHeartbeats 16000000 in
theorem made_round (B K q n1 : Nat) (w wo2 : World) (R Fb gA ca me : Nat) (h : Int) (d2 : Mk) (hn1 : n1 < 4) (hlt : q < n1 + 1) (hK : K + 40000 ≤ big) (hms : MS B (K + 100 + q * 9000) w R Fb gA ca (n1 + 1) me h d2 wo2)
    (u0 u1 u2 u3 u4 u8 u9 u11 u12 u13 u14 u15 u16 u17 u18 u19 u20 u21 u22 u23 u24 u25 u26 u27 u28 u29 u30 u31 u32 u33 u34 u35 u36 u37 u38 u39 u40 u41 u42 u43 u44 u45 u46 u47 u48 u49 u50 u51 u52 u53 u54 u55 u56 u57 u58 u59 u60 u61 u62 u63 u64 u65 u66 u67 u68 u69 u70 u71 u72 u73 u74 u75 u76 u77 u78 u79 u80 u81 u82 u83 u84 u85 u86 u87 u88 u89 u90 u91 u92 u93 u94 u95 u96 u97 u98 u99 u100 u101 u102 u103 u104 u105 u106 u107 u108 u109 u110 u111 u112 u113 u114 u115 u116 u117 u118 u119 u120 u121 u122 u123 u124 u125 u126 u127 u128 u129 u130 u131 u132 u133 u134 u135 u136 u137 u138 u139 u140 u141 u142 u143 u144 u145 u146 u147 u148 u149 u150 u151 u152 u153 u154 u155 u156 u157 u158 u159 u160 u161 u162 u163 u164 u165 u166 u167 u168 u169 u170 u171 u172 u173 u174 u175 u176 u177 u178 u179 u180 u181 u182 u183 u184 u185 u186 u187 u188 u189 u190 u191 u192 u193 u194 u195 u196 u197 u198 u199 u200 : Value) (KK : Act → World → Prop) (Q' : Exit → Act → World → Prop)
    (hKK : ∀ (v11 v100 v101 v102 v103 v104 v105 v106 v107 v108 v109 v110 v111 v112 v113 v114 v115 v116 v117 v118 v119 v120 v121 v122 v123 v124 v125 v126 v127 v128 v129 v130 v131 v132 v133 v134 v135 v136 v137 v138 v139 v140 v141 v142 v143 v144 v145 v146 v147 v148 v149 v150 v151 v152 v153 v154 v155 v156 v157 v158 v159 v160 v161 v162 v163 v164 v165 v166 v167 v168 v169 v170 v171 v172 v173 v174 v175 : Value) (d : Mk) (wx : World), MS B (K + 100 + (q + 1) * 9000) w R Fb gA ca (n1 + 1) q h d wx → KK ⟨#[u0, u1, u2, u3, u4, .pointer (some ⟨R + 3, 0, none⟩), .pointer (some ⟨R + 5, 0, none⟩), .int .i64 (1 + (n1 : Int)), u8, u9, .int .i64 (q : Int), v11, u12, u13, u14, u15, u16, u17, u18, u19, u20, u21, u22, u23, u24, u25, u26, u27, u28, u29, u30, u31, u32, u33, u34, u35, u36, u37, u38, u39, u40, u41, u42, u43, u44, u45, u46, u47, u48, u49, u50, u51, u52, u53, u54, u55, u56, u57, u58, u59, u60, u61, u62, u63, u64, u65, u66, u67, u68, u69, u70, u71, u72, u73, u74, u75, u76, u77, u78, u79, u80, u81, u82, u83, u84, u85, u86, u87, u88, u89, u90, u91, u92, u93, u94, u95, u96, u97, u98, u99, v100, v101, v102, v103, v104, v105, v106, v107, v108, v109, v110, v111, v112, v113, v114, v115, v116, v117, v118, v119, v120, v121, v122, v123, v124, v125, v126, v127, v128, v129, v130, v131, v132, v133, v134, v135, v136, v137, v138, v139, v140, v141, v142, v143, v144, v145, v146, v147, v148, v149, v150, v151, v152, v153, v154, v155, v156, v157, v158, v159, v160, v161, v162, v163, v164, v165, v166, v167, v168, v169, v170, v171, v172, v173, v174, v175, u176, u177, u178, u179, u180, u181, u182, u183, u184, u185, u186, u187, u188, u189, u190, u191, u192, u193, u194, u195, u196, u197, u198, u199, u200], []⟩ wx) :
    (partOf (Tryz.f5.body.getD .skip) [1, 1, 1, 1, 1, 1, 1, 1, 1, 1, 0, 1, 2, 2, 1, 0]).wp Tryz.prog (Exit.then KK Q') ⟨#[u0, u1, u2, u3, u4, .pointer (some ⟨R + 3, 0, none⟩), .pointer (some ⟨R + 5, 0, none⟩), .int .i64 (1 + (n1 : Int)), u8, u9, .int .i64 (q : Int), u11, u12, u13, u14, u15, u16, u17, u18, u19, u20, u21, u22, u23, u24, u25, u26, u27, u28, u29, u30, u31, u32, u33, u34, u35, u36, u37, u38, u39, u40, u41, u42, u43, u44, u45, u46, u47, u48, u49, u50, u51, u52, u53, u54, u55, u56, u57, u58, u59, u60, u61, u62, u63, u64, u65, u66, u67, u68, u69, u70, u71, u72, u73, u74, u75, u76, u77, u78, u79, u80, u81, u82, u83, u84, u85, u86, u87, u88, u89, u90, u91, u92, u93, u94, u95, u96, u97, u98, u99, u100, u101, u102, u103, u104, u105, u106, u107, u108, u109, u110, u111, u112, u113, u114, u115, u116, u117, u118, u119, u120, u121, u122, u123, u124, u125, u126, u127, u128, u129, u130, u131, u132, u133, u134, u135, u136, u137, u138, u139, u140, u141, u142, u143, u144, u145, u146, u147, u148, u149, u150, u151, u152, u153, u154, u155, u156, u157, u158, u159, u160, u161, u162, u163, u164, u165, u166, u167, u168, u169, u170, u171, u172, u173, u174, u175, u176, u177, u178, u179, u180, u181, u182, u183, u184, u185, u186, u187, u188, u189, u190, u191, u192, u193, u194, u195, u196, u197, u198, u199, u200], []⟩ wo2 := by
  refine onlyTo ?_
  have HKK := Lib.hid hKK
  clear hKK
  change (Code.block 5 _).wp _ _ _ _
  have hlt' : (q : Int) < 1 + (n1 : Int) := by omega
  have c3 : wo2.cell? ⟨R + 5, 3, none⟩ = some (.int .i64 me) := hms.mkr.cell 3
  have c4 : wo2.cell? ⟨R + 5, 4, none⟩ = some d2.bl := hms.mkr.cell 4
  have f3 : wo2.frozen? ⟨R + 5, 3, none⟩ = false := hms.mkr.free 3
  have f4 : wo2.frozen? ⟨R + 5, 4, none⟩ = false := hms.mkr.free 4
  have msA := hms.setM (hms.mkr.setMe (me' := q))
  have msB := Lib.hid (msA.setM msA.mkr.setF)
  clear msA hms
  go_upto_region 25 with fail
  generalize ((wo2.setCell ⟨R + 5, 3, none⟩ (.int .i64 (q : Int))).setCell ⟨R + 5, 4, none⟩ (.slice none 0 0)) = wB at msB ⊢
  clear c3 c4 f3 f4
  have hKq : K + 100 + q * 9000 + 9000 ≤ big := by omega
  have hKq1 : K + 100 + q * 9000 + 1 ≤ big := by omega
  have msb := msB.out
  clear msB
  go_upto_region 28 with (first
    | (go_at_call 12; (with_reducible refine (take_ms msb hKq1 3 (by decide) (by decide)).mono ?_); rintro e w3 ⟨r3, a3, b3, rfl, ms3⟩; obtain ⟨r4, rfl⟩ := Int.eq_ofNat_of_zero_le a3; have e6 : IntKind.i64.wrap ((r4 : Int) * 10) = ((r4 * 10 : Nat) : Int) := (by rw [IntWalk.i64_in _ (by omega)]; omega); have c6 : w3.cell? ⟨R + 5, 6, none⟩ = some (.int .i64 _) := ms3.mkr.cell 6; have c7 : w3.cell? ⟨R + 5, 7, none⟩ = some _ := ms3.mkr.cell 7; have c8 : w3.cell? ⟨R + 5, 8, none⟩ = some (.int .i64 _) := ms3.mkr.cell 8; have f6 : w3.frozen? ⟨R + 5, 6, none⟩ = false := ms3.mkr.free 6; have f7 : w3.frozen? ⟨R + 5, 7, none⟩ = false := ms3.mkr.free 7; have f8 : w3.frozen? ⟨R + 5, 8, none⟩ = false := ms3.mkr.free 8; have MS3 := Lib.hid ms3; clear ms3))
  have hz10 : (r4 : Int) * 10 = ((r4 * 10 : Nat) : Int) := by omega
  rw [hz10]
  have ms4 := Lib.hid (MS3.out.reset (r := r4 * 10) (by omega) (by omega))
  clear c6 c7 c8 f6 f7 f8 e6 hz10 MS3
  generalize (((w3.setCell ⟨R + 5, 6, none⟩ (.int .i64 ((r4 * 10 : Nat) : Int))).setCell ⟨R + 5, 7, none⟩ (.slice none 0 0)).setCell ⟨R + 5, 8, none⟩ (.int .i64 6)) = wC at ms4 ⊢
  obtain ⟨p0, p1, p3, ff, hargs⟩ := ms4.out.cells
  obtain ⟨a, ha3, hca⟩ := hargs q hlt
  clear hargs ff
  have r0 : (0 : Int) ≤ (q : Int) := by omega
  have r1 : (q : Int) < ((n1 + 1 : Nat) : Int) := by omega
  have r2 : (q : Int) < (n1 : Int) + 1 := by omega
  have hKb : K + 100 + q * 9000 + 1 + a + a + 1 ≤ big := by omega
  have hblk := block_mk _ _ wC _ a ms4.out.mkr ha3 hKb
  have hblk' : Calls Tryz.prog 13 #[.pointer (some ⟨R + 5, 0, none⟩), .int .i64 (a : Int)] wC _ := hblk
  clear hblk
  go_upto_region 29 with (first
    | (go_at_call 13; (with_reducible refine hblk'.mono ?_); rintro e w5 ⟨d5, rfl, mk5, hPL5, hcu5, hnv5, hva5, fr5⟩; have ms5 := ms4.out.on mk5 fr5 (by omega); have c5 : w5.cell? ⟨R + 5, 5, none⟩ = some (.int .i64 d5.cur) := mk5.cell 5; have f5 : w5.frozen? ⟨R + 5, 5, none⟩ = false := mk5.free 5; have MS5 := Lib.hid ms5; clear ms5))
  have hPLa : d5.PL = [a] := hPL5
  have ms6 := MS5.out.setM (MS5.out.mkr.setCurZ (b := 0) (z := 0) rfl)
  clear c5 f5 hcu5 hnv5 fr5 hPL5
  generalize w5.setCell ⟨R + 5, 5, none⟩ (.int .i64 0) = w6 at ms6 ⊢
  generalize hd6 : ({ d5 with cur := 0 } : Mk) = d6 at ms6
  have hPL6 : d6.PL = [a] := by rw [← hd6]; exact hPLa
  have hva6 : d6.vals = .slice none 0 0 := by rw [← hd6]; exact hva5
  have hcu6 : d6.cur = 0 := by rw [← hd6]
  obtain ⟨gB, cB, AP, kP, hbl, hp1, hp2⟩ := ms6.mkr.firstParams hPL6
  have t7 : w6.cell? ⟨R + 5, 7, none⟩ = some (.slice none 0 0) := by rw [← hva6]; exact ms6.mkr.cell 7
  have t4 : w6.cell? ⟨R + 5, 4, none⟩ = some (.slice (some ⟨gB, 0, none⟩) 1 cB) := by rw [← hbl]; exact ms6.mkr.cell 4
  have ms6d := ms6.drew
  have hKg : K + 100 + q * 9000 + 1 + a + a + 1 ≤ 34359738368 := by have : big = 1073741824 := rfl; omega
  have hsz6 := ms6d.mkr.size
  have hp2d : SlV B (K + 100 + q * 9000 + 1 + a + a + 1) w6.drew 3 1 (.slice AP a kP) a := hp2
  have hwt6 : WT B (K + 100 + q * 9000 + 1 + a + a + 1) w6.drew := ms6d.mkr.wt
  have M6 := Lib.hid ms6d
  clear ms6 ms6d MS5 hd6 hva5
  go_upto_region 29 with fail
  go_cut [] from 100 to 175 (fun wx => ∃ d7, d7.PL = [a] ∧ d7.cur = 0 ∧ MS B (K + 100 + q * 9000 + 1 + a + a + 1) w R Fb gA ca (n1 + 1) q h d7 wx)
  case first =>
    go_region_law (first
      | (refine step_append_el (w := w6.drew) (P := Tryz.prog) (B := B) (K := K + 100 + q * 9000 + 1 + a + a + 1) (K' := K + 100 + q * 9000 + 1 + a + a + 1) (n := 0) (m := a) rfl (.tmp 136) (.tmp 144) rfl el22 hwt6 rfl rfl (nilV _ _ _ _ _) hp2d (by omega) (Nat.le_refl _) hKg hsz6 ?_; intro v9 w9 happ; obtain ⟨A9, c9, rfl, sv9, ow9⟩ := zeroAdd_own happ; obtain ⟨mk9, fr9⟩ := M6.out.mkr.appNil happ; have ms9 := M6.out.on mk9 fr9 (Nat.le_refl _); have q7 : w9.cell? ⟨R + 5, 7, none⟩ = some _ := mk9.cell 7; have f7 : w9.frozen? ⟨R + 5, 7, none⟩ = false := mk9.free 7; have MS9 := Lib.hid ms9; have SV9 := Lib.hid sv9; have OW9 := Lib.hid ow9; clear happ mk9 fr9 ms9 sv9 ow9))
    all_goals (try go_wp2_with fail)
    all_goals go_meet
    all_goals exact ⟨{ d6 with vals := .slice A9 a c9, nv := a }, hPL6, hcu6, MS9.out.setM (MS9.out.mkr.setM (i := 7) (v := .slice A9 a c9) (d' := { d6 with vals := .slice A9 a c9, nv := a }) (by simp [mkCells]) rfl rfl MS9.out.mkr.at_ MS9.out.mkr.next MS9.out.mkr.left0 MS9.out.mkr.left1 rfl rfl SV9.out (fun hh => by have h1 := OW9.out _ hh; have h2 := M6.out.mkr.paLt; have h3 : gA = w6.heap.size := h1; have h4 : gA < w6.heap.size := h2; omega))⟩
  case rest =>
    obtain ⟨d7, hPL7, hcu7, ms7⟩ := hcut
    have hK8 : K + 100 + q * 9000 + 1 + a + a + 1 + 3870 ≤ big := by omega
    have hK9 : K + 100 + q * 9000 + 1 + a + a + 1 + 3870 + 910 ≤ big := by omega
    have hcall2 : Calls Tryz.prog 14 #[.pointer (some ⟨R + 5, 0, none⟩), .int .i64 2] wc _ := part2 (cx B R gA (n1 + 1) q h) _ _ _ ms7.mkr (ms7.pg hlt) hK8 (by rw [hPL7, hcu7]; simp)
    go_upto_region 31 with (first
      | (go_at_call 14; (with_reducible refine hcall2.mono ?_); rintro e w8 ⟨rfl, d8, mk8, fr8, ex8⟩))
    have ms8 := ms7.on mk8 fr8 (by omega)
    have hcall1 : Calls Tryz.prog 14 #[.pointer (some ⟨R + 5, 0, none⟩), .int .i64 1] w8 _ := part1 (cx B R gA (n1 + 1) q h) _ _ _ ms8.mkr (ms8.pg hlt) hK9 ex8.curOk
    clear hcall2
    go_upto_region 32 with (first
      | (go_at_call 14; (with_reducible refine hcall1.mono ?_); rintro e w9 ⟨rfl, d9, mk9, fr9, ex9⟩))
    have ms9 := ms8.on mk9 fr9 (by omega)
    have hcur9 := ex9.curOk
    clear hcall1 mk9 fr9 ex9 mk8 fr8 ex8 ms7 ms8
    obtain ⟨msT, hbT⟩ := ms9.box (cs := #[.int .i64 4, .int .i64 (-1), .slice none 0 0])
    have hBT : B ≤ w9.heap.size := ms9.mkr.size
    have hKt : K + 100 + q * 9000 + 1 + a + a + 1 + 3870 + 910 + 1 ≤ big := by omega
    have hKa : K + 100 + q * 9000 + 1 + a + a + 1 + 3870 + 910 + 1 + 4 ≤ big := by omega
    clear ms9 t7 t4 hwt6 hp2d hsz6 M6 hblk' hp1 hp2 hbl p0 p1 p3
    go_upto_region 33 with fail
    generalize w9.alloc _ = wT at msT hbT ⊢
    generalize w9.heap.size = TB at hBT hbT ⊢
    go_upto_block 6 with (first
      | (go_at_call 12; (with_reducible refine (take_box msT hbT hKt 10 (by decide) (by decide)).mono ?_); rintro e wA ⟨rT, aT, bT, rfl, msA, hbA⟩))
    go_cut [] from 100 to 175 (fun wx => ∃ (z0 z1 : Int) (dT : Mk), dT.cur < dT.PL.length ∧ MS B (K + 100 + q * 9000 + 1 + a + a + 1 + 3870 + 910 + 1 + 4) w R Fb gA ca (n1 + 1) q h dT wx ∧ wx.heap[TB]? = some (.cells #[.int .i64 z0, .int .i64 z1, .slice none 0 0] 44 (0, 0)))
    case first =>
      have f0 : wA.frozen? ⟨TB, 0, none⟩ = false := free_of hbA
      have f1 : wA.frozen? ⟨TB, 1, none⟩ = false := free_of hbA
      have f2 : wA.frozen? ⟨TB, 2, none⟩ = false := free_of hbA
      have k0 : wA.cell? ⟨TB, 0, none⟩ = some (.int .i64 4) := cell_of hbA
      have k1 : wA.cell? ⟨TB, 1, none⟩ = some (.int .i64 (-1)) := cell_of hbA
      have k2 : wA.cell? ⟨TB, 2, none⟩ = some (.slice none 0 0) := cell_of hbA
      have MSA := Lib.hid msA; have HBA := Lib.hid hbA
      clear msA hbA
      by_cases hr0 : rT = 0
      · subst hr0
        obtain ⟨s1, b1⟩ := MSA.out.setBox (i := 0) (v := .int .i64 5) HBA.out hBT
        obtain ⟨s2, b2⟩ := s1.setBox (i := 1) (v := .int .i64 0) b1 hBT
        obtain ⟨s3, b3⟩ := s2.setBox (i := 2) (v := .slice none 0 0) b2 hBT
        have S3 := Lib.hid s3; have B3 := Lib.hid b3
        clear s1 s2 s3 b1 b2 b3
        go_wp2_with fail
        go_meet
        exact ⟨5, 0, { d9 with at_ := d9.at_ + 1 }, hcur9, S3.out.more (by omega) hKa, B3.out⟩
      · have hr0' : (rT == 0) = false := by simpa using hr0
        by_cases hr1 : rT = 1
        · subst hr1
          go_wp2_with fail
          go_meet
          exact ⟨4, -1, { d9 with at_ := d9.at_ + 1 }, hcur9, MSA.out.more (by omega) hKa, HBA.out⟩
        · have hr1' : (rT == 1) = false := by simpa using hr1
          have hcurA : ({ d9 with at_ := d9.at_ + 1 } : Mk).cur < ({ d9 with at_ := d9.at_ + 1 } : Mk).PL.length := hcur9
          go_wp2_with (first
            | (go_at_call 15; (with_reducible refine (any_box MSA.out HBA.out hKa hcurA).mono ?_); rintro e wB ⟨rB, dB, rfl, msB, hcB, hbB⟩; obtain ⟨sB, bB⟩ := msB.setBox (i := 1) (v := .int .i64 rB) hbB hBT; have g1 : wB.frozen? ⟨TB, 1, none⟩ = false := free_of hbB; have j1 : wB.cell? ⟨TB, 1, none⟩ = some (.int .i64 (-1)) := cell_of hbB; have SB := Lib.hid sB; have BB := Lib.hid bB; clear sB bB msB hbB))
          go_meet
          exact ⟨4, rB, dB, hcB, SB.out, BB.out⟩
    case rest =>
      obtain ⟨z0, z1, dT, hcT, msT2, hbT2⟩ := hcut
      have k0 : wc.cell? ⟨TB, 0, none⟩ = some (.int .i64 z0) := cell_of hbT2
      have k1 : wc.cell? ⟨TB, 1, none⟩ = some (.int .i64 z1) := cell_of hbT2
      have k2 : wc.cell? ⟨TB, 2, none⟩ = some (.slice none 0 0) := cell_of hbT2
      obtain ⟨Ab, kb, hblE⟩ := msT2.mkr.bls.form
      clear hbT2
      go_upto_region 39 with (first
        | (go_at_call 16; (with_reducible refine (end_ms msT2 hcT z0 z1).mono ?_); rintro e wE ⟨rfl, msE⟩))
      obtain ⟨p0, _, _, _, _⟩ := msE.cells
      obtain ⟨fF, cF⟩ := msE.func q
      obtain ⟨vF, cF⟩ := cF hlt
      have m4 : wE.cell? ⟨R + 5, 4, none⟩ = some (.slice Ab dT.PL.length kb) := by rw [← hblE]; exact msE.mkr.cell 4
      have hslE : SlV B (K + 100 + q * 9000 + 1 + a + a + 1 + 3870 + 910 + 1 + 4) wE 46 5 (.slice Ab dT.PL.length kb) dT.PL.length := by rw [← hblE]; exact msE.mkr.bls
      have hfin := Lib.hid ((msE.setFn (j := q) hslE).drew.more (K' := K + 100 + (q + 1) * 9000) (by omega) (by omega))
      clear msE hslE msT2 hblE k0 k1 k2
      go_region_law (fail)
      all_goals (try go_wp2_with fail)
      all_goals exact HKK.out _ _ _ _ _ _ _ _ _ _ _ _ _ _ _ _ _ _ _ _ _ _ _ _ _ _ _ _ _ _ _ _ _ _ _ _ _ _ _ _ _ _ _ _ _ _ _ _ _ _ _ _ _ _ _ _ _ _ _ _ _ _ _ _ _ _ _ _ _ _ _ _ _ _ _ _ _ _ _ hfin.out
end Go.Proofs.YtahljbkaemhpcaaGreat
