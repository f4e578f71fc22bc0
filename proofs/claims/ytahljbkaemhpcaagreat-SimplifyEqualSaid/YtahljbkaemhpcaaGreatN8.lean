/- One thing of a block is changed: the arguments of an operation. -/
import Derived.Test.YtahljbkaemhpcaaGreatN7
namespace Go.Proofs.YtahljbkaemhpcaaGreat
open Go.RowKit
set_option linter.unusedVariables false
set_option maxRecDepth 100000 in
set_option maxHeartbeats 8000000 in
theorem spoil5 (B K : Nat) (w : World) (g j : Nat) (cs : Array Value) (nn : Nat) (hw : WT B K w) (hB : B ≤ g) (hBs : B ≤ w.heap.size) (hg : w.heap[g]? = some (.cells cs 46 (0, 0))) (hj : j * 5 + 5 ≤ cs.size) (hK : K + 2 ≤ big) (hn : nn ≤ 65535) :
    Calls Tryz.prog 18 #[.pointer (some ⟨g, j * 5, none⟩), .int .i64 5, .int .i64 nn] w (fun e w' => e = .returned (.tuple #[]) ∧ TyS B (K + 2) w w') := by
  have hKb : K + 2 ≤ 1073741824 := hK
  obtain ⟨A0, n0, k0, A1, n1, k1, z2, z3, A4, n4, k4, b0, b1, b2, b3, b4, s0, s1, s4⟩ := block_cells (n := 0) hw hB hg hj
  have v0 : w.frozen? ⟨g, j * 5, none⟩ = false := free_of hg
  have v1 : w.frozen? ⟨g, j * 5 + 1, none⟩ = false := free_of hg
  have v2 : w.frozen? ⟨g, j * 5 + 2, none⟩ = false := free_of hg
  have v3 : w.frozen? ⟨g, j * 5 + 3, none⟩ = false := free_of hg
  have v4 : w.frozen? ⟨g, j * 5 + 4, none⟩ = false := free_of hg
  have HW := Lib.hid hw; have HG := Lib.hid hg; have S0 := Lib.hid s0; have S1 := Lib.hid s1; have S4 := Lib.hid s4
  have hn1b : n1 ≤ K := s1.1
  clear hw hg s0 s1 s4
  go_enter Tryz.func18, Tryz.ntmps18
  go_upto_if 14 with fail
  go_cut [] (fun wx => TyS B (K + 1) w wx)
  case first =>
    by_cases h0 : 0 < n1
    · have h0' : (0 : Int) < (n1 : Int) := by omega
      have h0n : (n1 : Int) ≠ 0 := by omega
      obtain ⟨q, hq, e1, e2⟩ : ∃ q : Nat, q < n1 ∧ (nn : Int).tmod (n1 : Int) = (q : Int) ∧ (nn : Int) % (n1 : Int) = (q : Int) := ⟨nn % n1, Nat.mod_lt _ h0, rem_cast _ _, rfl⟩
      obtain ⟨gO, y0, y1, y2, y3, y4, Aa, na, ka, csO, rfl, hBO, hnk, hgO, o0, o1, o2, o3, o4, o5, sa⟩ := op_cells HW.out S1.out hq
      have u0 : w.frozen? ⟨gO, q * 6, none⟩ = false := free_of hgO
      have u1 : w.frozen? ⟨gO, q * 6 + 1, none⟩ = false := free_of hgO
      have u2 : w.frozen? ⟨gO, q * 6 + 2, none⟩ = false := free_of hgO
      have u3 : w.frozen? ⟨gO, q * 6 + 3, none⟩ = false := free_of hgO
      have u4 : w.frozen? ⟨gO, q * 6 + 4, none⟩ = false := free_of hgO
      have u5 : w.frozen? ⟨gO, q * 6 + 5, none⟩ = false := free_of hgO
      have r0 : (0 : Int) ≤ (q : Int) := by omega
      have r1 : (q : Int) < (n1 : Int) := by omega
      have HGO := Lib.hid hgO; have SA := Lib.hid sa
      clear hgO sa
      have hne : g ≠ gO := by
        rintro rfl
        have h1 := HG.out
        rw [HGO.out] at h1; cases h1
      have hgs : g < w.heap.size := heap_lt HG.out
      have hgOs : gO < w.heap.size := heap_lt HGO.out
      obtain ⟨zz, hzz⟩ : ∃ z, (IntKind.i64.wrap ((nn : Int) / 7)).tmod 20 = z := ⟨_, rfl⟩
      have b1a : (w.alloc (.cells #[.int .i64 zz] 3)).cell? ⟨g, j * 5 + 1, none⟩ = some (.slice (some ⟨gO, 0, none⟩) n1 k1) := (cell_alloc hgs).trans b1
      have o5a : (w.alloc (.cells #[.int .i64 zz] 3)).cell? ⟨gO, q * 6 + 5, none⟩ = some (.slice Aa na ka) := (cell_alloc hgOs).trans o5
      have t1 : TyS B (K + 1) w (w.drew.alloc (.cells #[.int .i64 zz] 3)) := (((TyS.start HW.out).more (Nat.le_succ K)).drew).alloc hBs (int_typed _)
      have sva : SlV B (K + 1) (w.drew.alloc (.cells #[.int .i64 zz] 3)) 3 1 (.slice Aa na ka) na := SA.out.on ((Shape.refl w).drew.alloc _) (Nat.le_succ K)
      have hx1 : SlV B (K + 1) (w.drew.alloc (.cells #[.int .i64 zz] 3)) 3 1 (.slice (some ⟨w.heap.size, 0, none⟩) 1 1) 1 := newRow (w := w.drew) hBs (by simp) (by omega)
      have hnaK : na + 1 ≤ K + 1 := by have := SA.out.1; omega
      have hK' : K + 1 ≤ 34359738368 := by omega
      have T1 := Lib.hid t1
      clear t1
      go_upto_region 14 with fail
      go_region_law (first
        | (refine step_append_el (w := w.drew.alloc (.cells #[.int .i64 zz] 3)) (P := Tryz.prog) (B := B) (K := K + 1) (K' := K + 1) (n := na) (m := 1) rfl (.tmp 100) (.tmp 104) rfl el22 T1.out.wt rfl rfl sva hx1 hnaK (Nat.le_refl _) hK' (by simp; omega) ?_; intro v9 w9 happ; obtain ⟨A9, c9, rfl⟩ := happ.slv.form; have hb9 : w9.heap[g]? = some (.cells cs 46 (0, 0)) := happ.other sva ((Below.heap_alloc w.drew _ g hgs).trans HG.out) (by decide); have ho9 : w9.heap[gO]? = some (.cells csO 40 (0, 0)) := happ.other sva ((Below.heap_alloc w.drew _ gO hgOs).trans HGO.out) (by decide); have b1b : w9.cell? ⟨g, j * 5 + 1, none⟩ = some (.slice (some ⟨gO, 0, none⟩) n1 k1) := (cell_of hb9).trans ((cell_of HG.out).symm.trans b1); have o5b : w9.cell? ⟨gO, q * 6 + 5, none⟩ = some (.slice Aa na ka) := (cell_of ho9).trans ((cell_of HGO.out).symm.trans o5); have u5b : w9.frozen? ⟨gO, q * 6 + 5, none⟩ = false := free_of ho9; have HFIN := Lib.hid ((T1.out.app happ sva (by simp; omega)).set (o := q * 6 + 5) (v := .slice A9 (na + 1) c9) ho9 hBO (fun ck hl => by rw [lay6] at hl; cases hl; exact ⟨_, happ.slv⟩)); clear happ hb9 ho9))
      all_goals (try go_wp2_with fail)
      all_goals (go_meet; exact HFIN.out)
    · have h0' : decide (0 < n1) = false := by simp; omega
      go_wp2_with fail
      go_meet
      exact (TyS.start HW.out).more (Nat.le_succ K)
  case rest =>
    go_wp2_with fail
    go_end0
    exact ⟨rfl, hcut.more (Nat.le_succ _)⟩
end Go.Proofs.YtahljbkaemhpcaaGreat
