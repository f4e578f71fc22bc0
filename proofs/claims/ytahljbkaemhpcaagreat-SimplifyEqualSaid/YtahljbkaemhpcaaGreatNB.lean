/- One thing of a block is changed: an operation, otherwise. -/
import Derived.Test.YtahljbkaemhpcaaGreatN7
namespace Go.Proofs.YtahljbkaemhpcaaGreat
open Go.RowKit
set_option linter.unusedVariables false
set_option maxRecDepth 100000 in
set_option maxHeartbeats 8000000 in
theorem spoilA (B K : Nat) (w : World) (g j : Nat) (cs : Array Value) (what : Int) (hd5 : (what == 5) = false) (hd6 : (what == 6) = false) (hd12 : (what == 12) = false) (nn : Nat) (hw : WT B K w) (hB : B ≤ g) (hBs : B ≤ w.heap.size) (hg : w.heap[g]? = some (.cells cs 46 (0, 0))) (hj : j * 5 + 5 ≤ cs.size) (hK : K + 2 ≤ big) (hn : nn ≤ 65535) :
    Calls Tryz.prog 18 #[.pointer (some ⟨g, j * 5, none⟩), .int .i64 what, .int .i64 nn] w (fun e w' => e = .returned (.tuple #[]) ∧ TyS B (K + 2) w w') := by
  have hKb : K + 2 ≤ 1073741824 := hK
  obtain ⟨A0, n0, k0, A1, n1, k1, z2, z3, A4, n4, k4, b0, b1, b2, b3, b4, s0, s1, s4⟩ := block_cells (n := 0) hw hB hg hj
  have v0 : w.frozen? ⟨g, j * 5, none⟩ = false := free_of hg
  have v1 : w.frozen? ⟨g, j * 5 + 1, none⟩ = false := free_of hg
  have v2 : w.frozen? ⟨g, j * 5 + 2, none⟩ = false := free_of hg
  have v3 : w.frozen? ⟨g, j * 5 + 3, none⟩ = false := free_of hg
  have v4 : w.frozen? ⟨g, j * 5 + 4, none⟩ = false := free_of hg
  have HW := Lib.hid hw; have HG := Lib.hid hg; have S0 := Lib.hid s0; have S1 := Lib.hid s1; have S4 := Lib.hid s4
  have hn1b : n1 ≤ K := s1.1
  clear hw hg s0 s1 s4
  go_enter Tryz.func18, Tryz.ntmps18
  go_upto_if 14 with fail
  go_cut [] (fun wx => TyS B (K + 1) w wx)
  case first =>
    by_cases h0 : 0 < n1
    · have h0' : (0 : Int) < (n1 : Int) := by omega
      have h0n : (n1 : Int) ≠ 0 := by omega
      obtain ⟨q, hq, e1, e2⟩ : ∃ q : Nat, q < n1 ∧ (nn : Int).tmod (n1 : Int) = (q : Int) ∧ (nn : Int) % (n1 : Int) = (q : Int) := ⟨nn % n1, Nat.mod_lt _ h0, rem_cast _ _, rfl⟩
      obtain ⟨gO, y0, y1, y2, y3, y4, Aa, na, ka, csO, rfl, hBO, hnk, hgO, o0, o1, o2, o3, o4, o5, sa⟩ := op_cells HW.out S1.out hq
      have u0 : w.frozen? ⟨gO, q * 6, none⟩ = false := free_of hgO
      have u1 : w.frozen? ⟨gO, q * 6 + 1, none⟩ = false := free_of hgO
      have u2 : w.frozen? ⟨gO, q * 6 + 2, none⟩ = false := free_of hgO
      have u3 : w.frozen? ⟨gO, q * 6 + 3, none⟩ = false := free_of hgO
      have u4 : w.frozen? ⟨gO, q * 6 + 4, none⟩ = false := free_of hgO
      have u5 : w.frozen? ⟨gO, q * 6 + 5, none⟩ = false := free_of hgO
      have r0 : (0 : Int) ≤ (q : Int) := by omega
      have r1 : (q : Int) < (n1 : Int) := by omega
      have HGO := Lib.hid hgO; have SA := Lib.hid sa
      clear hgO sa
      have hne : g ≠ gO := by
        rintro rfl
        have h1 := HG.out
        rw [HGO.out] at h1; cases h1
      have hgs : g < w.heap.size := heap_lt HG.out
      have hgOs : gO < w.heap.size := heap_lt HGO.out
      go_wp2_with fail
      all_goals go_meet
      · exact ((TyS.start HW.out).set HGO.out hBO (fun ck hl => by rw [← Nat.add_zero (q * 6), lay6] at hl; cases hl; exact ⟨_, rfl⟩)).more (Nat.le_succ K)
      · exact ((TyS.start HW.out).set HGO.out hBO (fun ck hl => by rw [lay6] at hl; cases hl; exact ⟨_, rfl⟩)).more (Nat.le_succ K)
      · exact ((TyS.start HW.out).set HGO.out hBO (fun ck hl => by rw [lay6] at hl; cases hl; exact ⟨_, rfl⟩)).more (Nat.le_succ K)
      · exact ((TyS.start HW.out).set HGO.out hBO (fun ck hl => by rw [lay6] at hl; cases hl; exact ⟨_, rfl⟩)).more (Nat.le_succ K)
      · exact ((TyS.start HW.out).set HGO.out hBO (fun ck hl => by rw [lay6] at hl; cases hl; exact ⟨_, rfl⟩)).more (Nat.le_succ K)
      · exact ((TyS.start HW.out).set HG.out hB (fun ck hl => by rw [lay5] at hl; cases hl; exact ⟨_, S1.out.cut (by omega)⟩)).more (Nat.le_succ K)
      · exact (TyS.start HW.out).more (Nat.le_succ K)
    · have h0' : decide (0 < n1) = false := by simp; omega
      go_wp2_with fail
      go_meet
      exact (TyS.start HW.out).more (Nat.le_succ K)
  case rest =>
    have hsz' : B ≤ wc.heap.size := by
      obtain ⟨cs', hg', _⟩ := hcut.sh g cs 46 _ HG.out
      exact Nat.le_of_lt (Nat.lt_of_le_of_lt hB (heap_lt hg'))
    obtain ⟨cs', hg', hsz⟩ := hcut.sh g cs 46 _ HG.out
    clear b0 b1 b2 b3 b4 v0 v1 v2 v3 v4 S0 S1 S4
    clear A0 n0 k0 A1 n1 k1 z2 z3 A4 n4 k4 hn1b
    obtain ⟨A0, n0, k0, A1, n1, k1, z2, z3, A4, n4, k4, b0, b1, b2, b3, b4, s0, s1, s4⟩ := block_cells (n := 0) (j := j) hcut.wt hB hg' (by omega)
    have v0 : wc.frozen? ⟨g, j * 5, none⟩ = false := free_of hg'
    have v1 : wc.frozen? ⟨g, j * 5 + 1, none⟩ = false := free_of hg'
    have v2 : wc.frozen? ⟨g, j * 5 + 2, none⟩ = false := free_of hg'
    have v3 : wc.frozen? ⟨g, j * 5 + 3, none⟩ = false := free_of hg'
    have v4 : wc.frozen? ⟨g, j * 5 + 4, none⟩ = false := free_of hg'
    obtain ⟨zz, e3, e4⟩ : ∃ z, (nn : Int).tmod 40 = z ∧ (nn : Int) % 40 = z := ⟨_, rfl, (Int.tmod_eq_emod_of_nonneg (by omega)).symm⟩
    have t1 : TyS B (K + 2) w (wc.alloc (.cells #[.int .i64 zz] 3)) := (hcut.more (Nat.le_succ _)).alloc hsz' (int_typed _)
    have sva : SlV B (K + 2) (wc.alloc (.cells #[.int .i64 zz] 3)) 3 1 (.slice A0 n0 k0) n0 := s0.on ((Shape.refl wc).alloc _) (Nat.le_succ _)
    have hx1 : SlV B (K + 2) (wc.alloc (.cells #[.int .i64 zz] 3)) 3 1 (.slice (some ⟨wc.heap.size, 0, none⟩) 1 1) 1 := newRow hsz' (by simp) (by omega)
    have hnaK : n0 + 1 ≤ K + 2 := by have := s0.1; omega
    have hK' : K + 2 ≤ 34359738368 := by omega
    have hgs' : g < wc.heap.size := heap_lt hg'
    have T1 := Lib.hid t1; have HC := Lib.hid hcut; have HG' := Lib.hid hg'; have S4 := Lib.hid s4
    clear t1 hcut hg' s0 s1 s4
    by_cases h4 : 0 < n4
    · have h4' : (0 : Int) < (n4 : Int) := by omega
      obtain ⟨gE, y0, Aa, na, ka, csE, rfl, hBE, hnk, hgE, p0, p1, sa⟩ := edge_cells HC.out.wt S4.out h4
      rw [Nat.zero_mul] at p0
      have q0 : wc.frozen? ⟨gE, 0, none⟩ = false := free_of hgE
      have HGE := Lib.hid hgE
      clear hgE sa
      go_wp2_with (first
        | (at_builtin; refine wpList_append_el (w := wc.alloc (.cells #[.int .i64 zz] 3)) (P := Tryz.prog) (B := B) (K := K + 2) (K' := K + 2) (n := n0) (m := 1) rfl (.tmp 163) (.tmp 166) rfl el22 T1.out.wt rfl rfl sva hx1 hnaK (Nat.le_refl _) hK' (by simp; omega) ?_; intro v9 w9 happ; obtain ⟨A9, c9, rfl⟩ := happ.slv.form; have hb9 : w9.heap[g]? = some (.cells cs' 46 (0, 0)) := happ.other sva ((Below.heap_alloc wc _ g hgs').trans HG'.out) (by decide); have b9 : w9.cell? ⟨g, j * 5, none⟩ = some (.slice A0 n0 k0) := (cell_of hb9).trans ((cell_of HG'.out).symm.trans b0); have f9 : w9.frozen? ⟨g, j * 5, none⟩ = false := free_of hb9; have HFIN := Lib.hid ((T1.out.app happ sva (by simp; omega)).set (o := j * 5) (v := .slice A9 (n0 + 1) c9) hb9 hB (fun ck hl => by rw [← Nat.add_zero (j * 5), lay5] at hl; cases hl; exact ⟨_, happ.slv⟩)); clear happ hb9))
      all_goals go_end0
      all_goals first
        | exact ⟨rfl, HFIN.out⟩
        | exact ⟨rfl, (HC.out.set HG'.out hB (fun ck hl => by rw [lay5] at hl; cases hl; exact ⟨_, rfl⟩)).more (Nat.le_succ _)⟩
        | exact ⟨rfl, (HC.out.set HG'.out hB (fun ck hl => by rw [Nat.add_assoc, lay5] at hl; cases hl; exact ⟨_, rfl⟩)).more (Nat.le_succ _)⟩
        | exact ⟨rfl, (HC.out.set HGE.out hBE (fun ck hl => by cases hl; exact ⟨_, rfl⟩)).more (Nat.le_succ _)⟩
        | exact ⟨rfl, HC.out.more (Nat.le_succ _)⟩
    · have h4' : decide (0 < n4) = false := by simp; omega
      go_wp2_with (first
        | (at_builtin; refine wpList_append_el (w := wc.alloc (.cells #[.int .i64 zz] 3)) (P := Tryz.prog) (B := B) (K := K + 2) (K' := K + 2) (n := n0) (m := 1) rfl (.tmp 163) (.tmp 166) rfl el22 T1.out.wt rfl rfl sva hx1 hnaK (Nat.le_refl _) hK' (by simp; omega) ?_; intro v9 w9 happ; obtain ⟨A9, c9, rfl⟩ := happ.slv.form; have hb9 : w9.heap[g]? = some (.cells cs' 46 (0, 0)) := happ.other sva ((Below.heap_alloc wc _ g hgs').trans HG'.out) (by decide); have b9 : w9.cell? ⟨g, j * 5, none⟩ = some (.slice A0 n0 k0) := (cell_of hb9).trans ((cell_of HG'.out).symm.trans b0); have f9 : w9.frozen? ⟨g, j * 5, none⟩ = false := free_of hb9; have HFIN := Lib.hid ((T1.out.app happ sva (by simp; omega)).set (o := j * 5) (v := .slice A9 (n0 + 1) c9) hb9 hB (fun ck hl => by rw [← Nat.add_zero (j * 5), lay5] at hl; cases hl; exact ⟨_, happ.slv⟩)); clear happ hb9))
      all_goals go_end0
      all_goals first
        | exact ⟨rfl, HFIN.out⟩
        | exact ⟨rfl, (HC.out.set HG'.out hB (fun ck hl => by rw [lay5] at hl; cases hl; exact ⟨_, rfl⟩)).more (Nat.le_succ _)⟩
        | exact ⟨rfl, (HC.out.set HG'.out hB (fun ck hl => by rw [Nat.add_assoc, lay5] at hl; cases hl; exact ⟨_, rfl⟩)).more (Nat.le_succ _)⟩
        | exact ⟨rfl, HC.out.more (Nat.le_succ _)⟩
end Go.Proofs.YtahljbkaemhpcaaGreat
