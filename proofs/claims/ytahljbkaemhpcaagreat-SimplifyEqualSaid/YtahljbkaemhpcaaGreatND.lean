/- One thing of a block is changed: two operations are exchanged. -/
import Derived.Test.YtahljbkaemhpcaaGreatN7
namespace Go.Proofs.YtahljbkaemhpcaaGreat
open Go.RowKit
set_option linter.unusedVariables false
set_option maxRecDepth 100000 in
set_option maxHeartbeats 8000000 in
theorem spoil6 (B K : Nat) (w : World) (g j : Nat) (cs : Array Value) (nn : Nat) (hw : WT B K w) (hB : B ≤ g) (hBs : B ≤ w.heap.size) (hg : w.heap[g]? = some (.cells cs 46 (0, 0))) (hj : j * 5 + 5 ≤ cs.size) (hK : K + 2 ≤ big) (hn : nn ≤ 65535) :
    Calls Tryz.prog 18 #[.pointer (some ⟨g, j * 5, none⟩), .int .i64 6, .int .i64 nn] w (fun e w' => e = .returned (.tuple #[]) ∧ TyS B (K + 2) w w') := by
  have hKb : K + 2 ≤ 1073741824 := hK
  obtain ⟨A0, n0, k0, A1, n1, k1, z2, z3, A4, n4, k4, b0, b1, b2, b3, b4, s0, s1, s4⟩ := block_cells (n := 0) hw hB hg hj
  have v0 : w.frozen? ⟨g, j * 5, none⟩ = false := free_of hg
  have v1 : w.frozen? ⟨g, j * 5 + 1, none⟩ = false := free_of hg
  have v2 : w.frozen? ⟨g, j * 5 + 2, none⟩ = false := free_of hg
  have v3 : w.frozen? ⟨g, j * 5 + 3, none⟩ = false := free_of hg
  have v4 : w.frozen? ⟨g, j * 5 + 4, none⟩ = false := free_of hg
  have HW := Lib.hid hw; have HG := Lib.hid hg; have S0 := Lib.hid s0; have S1 := Lib.hid s1; have S4 := Lib.hid s4
  have hn1b : n1 ≤ K := s1.1
  clear hw hg s0 s1 s4
  go_enter Tryz.func18, Tryz.ntmps18
  go_upto_if 14 with fail
  go_cut [] (fun wx => TyS B (K + 1) w wx)
  case first =>
    by_cases h0 : 0 < n1
    · have h0' : (0 : Int) < (n1 : Int) := by omega
      have h0n : (n1 : Int) ≠ 0 := by omega
      obtain ⟨q, hq, e1, e2⟩ : ∃ q : Nat, q < n1 ∧ (nn : Int).tmod (n1 : Int) = (q : Int) ∧ (nn : Int) % (n1 : Int) = (q : Int) := ⟨nn % n1, Nat.mod_lt _ h0, rem_cast _ _, rfl⟩
      obtain ⟨gO, y0, y1, y2, y3, y4, Aa, na, ka, csO, rfl, hBO, hnk, hgO, o0, o1, o2, o3, o4, o5, sa⟩ := op_cells HW.out S1.out hq
      have u0 : w.frozen? ⟨gO, q * 6, none⟩ = false := free_of hgO
      have u1 : w.frozen? ⟨gO, q * 6 + 1, none⟩ = false := free_of hgO
      have u2 : w.frozen? ⟨gO, q * 6 + 2, none⟩ = false := free_of hgO
      have u3 : w.frozen? ⟨gO, q * 6 + 3, none⟩ = false := free_of hgO
      have u4 : w.frozen? ⟨gO, q * 6 + 4, none⟩ = false := free_of hgO
      have u5 : w.frozen? ⟨gO, q * 6 + 5, none⟩ = false := free_of hgO
      have r0 : (0 : Int) ≤ (q : Int) := by omega
      have r1 : (q : Int) < (n1 : Int) := by omega
      have HGO := Lib.hid hgO; have SA := Lib.hid sa
      clear hgO sa
      have hne : g ≠ gO := by
        rintro rfl
        have h1 := HG.out
        rw [HGO.out] at h1; cases h1
      have hgs : g < w.heap.size := heap_lt HG.out
      have hgOs : gO < w.heap.size := heap_lt HGO.out
      obtain ⟨q2, hq2, d1, d2⟩ : ∃ q : Nat, q < n1 ∧ (IntKind.i64.wrap ((nn : Int) / 7)).tmod (n1 : Int) = (q : Int) ∧ ((nn : Int) / 7) % (n1 : Int) = (q : Int) := by
        have e7 : (nn : Int) / 7 = ((nn / 7 : Nat) : Int) := by omega
        refine ⟨nn / 7 % n1, Nat.mod_lt _ h0, ?_, ?_⟩
        · rw [e7, IntWalk.i64_in _ (by omega)]; exact rem_cast _ _
        · rw [e7]; rfl
      obtain ⟨gO', x0, x1, x2, x3, x4, Ab, nb, kb, csO', hgg, hBO', hnk', hgO', i0, i1, i2, i3, i4, i5, sb⟩ := op_cells HW.out S1.out hq2
      injection hgg with hgg; injection hgg with hgg
      subst hgg
      have s0q : (0 : Int) ≤ (q2 : Int) := by omega
      have s1q : (q2 : Int) < (n1 : Int) := by omega
      have SB := Lib.hid sb
      clear sb hgO'
      go_upto_region 18 with fail
      have hbs : Hid (TyS B (K + 1) w (w.alloc (.cells #[.int .i64 y0, .int .i64 y1, .int .i64 y2, .int .i64 y3, .int .u16 y4, .slice Aa na ka] 40))) := ((TyS.start HW.out).more (Nat.le_succ K)).alloc hBs (op_typed (SA.out.on (Shape.refl _) (Nat.le_succ K)))
      have hbx := heap_alloc_new w (.cells #[.int .i64 y0, .int .i64 y1, .int .i64 y2, .int .i64 y3, .int .u16 y4, .slice Aa na ka] 40)
      have hbO := (Below.heap_alloc w (.cells #[.int .i64 y0, .int .i64 y1, .int .i64 y2, .int .i64 y3, .int .u16 y4, .slice Aa na ka] 40) gO hgOs).trans HGO.out
      have hbg := (Below.heap_alloc w (.cells #[.int .i64 y0, .int .i64 y1, .int .i64 y2, .int .i64 y3, .int .u16 y4, .slice Aa na ka] 40) g hgs).trans HG.out
      have hb1w := Lib.hid b1
      have ca : ∀ b o v, b < w.heap.size → w.cell? ⟨b, o, none⟩ = some v → (w.alloc (.cells #[.int .i64 y0, .int .i64 y1, .int .i64 y2, .int .i64 y3, .int .u16 y4, .slice Aa na ka] 40)).cell? ⟨b, o, none⟩ = some v := fun b o v hb h => (cell_alloc hb).trans h
      replace b1 := ca _ _ _ hgs b1
      replace o0 := ca _ _ _ hgOs o0
      replace o1 := ca _ _ _ hgOs o1
      replace o2 := ca _ _ _ hgOs o2
      replace o3 := ca _ _ _ hgOs o3
      replace o4 := ca _ _ _ hgOs o4
      replace o5 := ca _ _ _ hgOs o5
      replace i0 := ca _ _ _ hgOs i0
      replace i1 := ca _ _ _ hgOs i1
      replace i2 := ca _ _ _ hgOs i2
      replace i3 := ca _ _ _ hgOs i3
      replace i4 := ca _ _ _ hgOs i4
      replace i5 := ca _ _ _ hgOs i5
      have hsz1 : w.heap.size < (w.alloc (.cells #[.int .i64 y0, .int .i64 y1, .int .i64 y2, .int .i64 y3, .int .u16 y4, .slice Aa na ka] 40)).heap.size := by simp
      clear ca u0 u1 u2 u3 u4 u5
      generalize w.alloc (.cells #[.int .i64 y0, .int .i64 y1, .int .i64 y2, .int .i64 y3, .int .u16 y4, .slice Aa na ka] 40) = wA at *
      have u0 : wA.frozen? ⟨gO, q * 6, none⟩ = false := free_of hbO
      have u1 : wA.frozen? ⟨gO, q * 6 + 1, none⟩ = false := free_of hbO
      have u2 : wA.frozen? ⟨gO, q * 6 + 2, none⟩ = false := free_of hbO
      have u3 : wA.frozen? ⟨gO, q * 6 + 3, none⟩ = false := free_of hbO
      have u4 : wA.frozen? ⟨gO, q * 6 + 4, none⟩ = false := free_of hbO
      have u5 : wA.frozen? ⟨gO, q * 6 + 5, none⟩ = false := free_of hbO
      have hnO : gO ≠ w.heap.size := by omega
      have c0 : wA.cell? ⟨w.heap.size, 0, none⟩ = some (.int .i64 y0) := cell_of hbx
      have HBO := Lib.hid hbO; have HBG := Lib.hid hbg; have HBX := Lib.hid hbx
      clear hbO hbg hbx
      go_region
      go_wp2_with fail
      have hfin := (hbs.out).set6 (q := q) (v0 := x0) (v1 := x1) (v2 := x2) (v3 := x3) (v4 := x4) HBO.out hBO (SB.out.on hbs.out.sh (Nat.le_succ K)) _ rfl
      generalize (((((wA.setCell ⟨gO, q * 6, none⟩ (.int .i64 x0)).setCell ⟨gO, q * 6 + 1, none⟩ (.int .i64 x1)).setCell ⟨gO, q * 6 + 2, none⟩ (.int .i64 x2)).setCell ⟨gO, q * 6 + 3, none⟩ (.int .i64 x3)).setCell ⟨gO, q * 6 + 4, none⟩ (.int .u16 x4)).setCell ⟨gO, q * 6 + 5, none⟩ (.slice Ab nb kb) = wC at hfin ⊢
      obtain ⟨t6, sh6, far6, cs6, hO6⟩ := hfin
      clear b1 o0 o1 o2 o3 o4 o5 i0 i1 i2 i3 i4 i5 u0 u1 u2 u3 u4 u5 c0
      have hg6 := (far6 g hne).trans HBG.out
      have hx6 := (far6 w.heap.size hnO.symm).trans HBX.out
      have b1 : wC.cell? ⟨g, j * 5 + 1, none⟩ = some (.slice (some ⟨gO, 0, none⟩) n1 k1) := (cell_of hg6).trans ((cell_of HG.out).symm.trans hb1w.out)
      obtain ⟨gO', z0, z1, z2', z3', z4, Ac, nc, kc, csO', hgg, hBO', hnk', hgO', i0, i1, i2, i3, i4, i5, sb⟩ := op_cells t6.wt (S1.out.on t6.sh (Nat.le_succ K)) hq2
      injection hgg with hgg; injection hgg with hgg
      subst hgg
      have u0 : wC.frozen? ⟨gO, q2 * 6, none⟩ = false := free_of hO6
      have u1 : wC.frozen? ⟨gO, q2 * 6 + 1, none⟩ = false := free_of hO6
      have u2 : wC.frozen? ⟨gO, q2 * 6 + 2, none⟩ = false := free_of hO6
      have u3 : wC.frozen? ⟨gO, q2 * 6 + 3, none⟩ = false := free_of hO6
      have u4 : wC.frozen? ⟨gO, q2 * 6 + 4, none⟩ = false := free_of hO6
      have u5 : wC.frozen? ⟨gO, q2 * 6 + 5, none⟩ = false := free_of hO6
      have c0 : wC.cell? ⟨w.heap.size, 0, none⟩ = some (.int .i64 y0) := cell_of hx6
      have c1 : wC.cell? ⟨w.heap.size, 1, none⟩ = some (.int .i64 y1) := cell_of hx6
      have c2 : wC.cell? ⟨w.heap.size, 2, none⟩ = some (.int .i64 y2) := cell_of hx6
      have c3 : wC.cell? ⟨w.heap.size, 3, none⟩ = some (.int .i64 y3) := cell_of hx6
      have c4 : wC.cell? ⟨w.heap.size, 4, none⟩ = some (.int .u16 y4) := cell_of hx6
      have c5 : wC.cell? ⟨w.heap.size, 5, none⟩ = some (.slice Aa na ka) := cell_of hx6
      have T6 := Lib.hid t6; have SH6 := Lib.hid sh6; have HO6 := Lib.hid hO6
      clear t6 sh6 far6 hO6 hg6 hx6 sb
      go_region
      go_wp2_with fail
      go_meet
      have hfin := (T6.out).set6 (q := q2) (v0 := y0) (v1 := y1) (v2 := y2) (v3 := y3) (v4 := y4) HO6.out hBO (SA.out.on T6.out.sh (Nat.le_succ K)) _ rfl
      exact hfin.1.drew.drew
    · have h0' : decide (0 < n1) = false := by simp; omega
      go_wp2_with fail
      go_meet
      exact (TyS.start HW.out).more (Nat.le_succ K)
  case rest =>
    go_wp2_with fail
    go_end0
    exact ⟨rfl, hcut.more (Nat.le_succ _)⟩
end Go.Proofs.YtahljbkaemhpcaaGreat
