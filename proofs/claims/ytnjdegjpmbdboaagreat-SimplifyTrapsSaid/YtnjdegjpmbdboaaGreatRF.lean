/- ir's checker: values are defined before they are used. -/
import Derived.Test.YtnjdegjpmbdboaaGreatRD
/- ir's checker: a call is as it must be. -/
namespace Go.Proofs.YtnjdegjpmbdboaaGreat
open Go.RowKit
set_option linter.unusedVariables false
set_option maxRecDepth 100000 in
set_option maxHeartbeats 4000000 in
theorem operation_26 (w : World) (c : Nat) (hco : CallOk w c) : Calls Tryz.prog 136 #[.pointer (some ⟨c, 0, none⟩), .agg #[.int .i64 26, .int .i64 (-1), .int .i64 0, .int .i64 0, .int .u16 0, .slice none 0 0]] w (fun e w' => Low w.heap.size w w' ∧ e = .returned (.bool true)) := by
  have l1 : Low w.heap.size w (w.alloc (.cells #[.int .i64 26, .int .i64 (-1), .int .i64 0, .int .i64 0, .int .u16 0, .slice none 0 0] 33)) := (Low.refl _ w).alloc (Nat.le_refl _) _
  have a1 := heap_new w (.cells #[.int .i64 26, .int .i64 (-1), .int .i64 0, .int .i64 0, .int .u16 0, .slice none 0 0] 33)
  have hf : ∀ u, Calls Tryz.prog 143 #[.int .i64 26] u (fun e w' => e = .returned (.tuple #[.agg #[.bool false, .bool false, .bool false, .bool false], .bool true]) ∧ Below u.heap.size u w') := fun u => fields_any u 26 (by unfold OkCode; decide)
  have HCO := Lib.hid hco
  clear hco
  go_enter Tryz.func136, Tryz.ntmps136
  go_upto_region 1 with fail
  obtain ⟨t3, ht3⟩ : ∃ t, t = w.heap.size := ⟨_, rfl⟩
  rw [← ht3] at a1 ⊢
  clear ht3
  generalize w.alloc (.cells #[.int .i64 26, .int .i64 (-1), .int .i64 0, .int .i64 0, .int .u16 0, .slice none 0 0] 33) = w1 at a1 l1 ⊢
  have x0 : w1.cell? ⟨t3, 0, none⟩ = some (.int .i64 26) := cell_of a1
  have L1 := Lib.hid l1; have A1 := Lib.hid a1
  have hf1 := hf w1
  clear l1 a1 hf
  go_upto_region 2 with (first
    | (go_at_call 143; with_reducible refine hf1.mono ?_; rintro e w2 ⟨rfl, hb2⟩; have l2 := Low.of_below hb2; have L2 := Lib.hid (L1.out.trans (l2.mono L1.out.size)); have A2 := Lib.hid (l2.some A1.out); clear hb2 l2))
  have l3 : Low w2.heap.size w2 (w2.alloc (.cells #[.bool false, .bool false, .bool false, .bool false] 178)) := (Low.refl _ w2).alloc (Nat.le_refl _) _
  have L3 := Lib.hid (L2.out.trans (l3.mono L2.out.size)); have a3 := l3.some A2.out
  clear l3 L1 A1 L2 A2 hf1 x0
  generalize w2.heap.size = t5
  generalize w2.alloc (.cells #[.bool false, .bool false, .bool false, .bool false] 178) = w3 at a3 L3 ⊢
  have x0 : w3.cell? ⟨t3, 0, none⟩ = some (.int .i64 26) := cell_of a3
  have x1 : w3.cell? ⟨t3, 1, none⟩ = some (.int .i64 (-1)) := cell_of a3
  have x2 : w3.cell? ⟨t3, 2, none⟩ = some (.int .i64 0) := cell_of a3
  have x3 : w3.cell? ⟨t3, 3, none⟩ = some (.int .i64 0) := cell_of a3
  have x4 : w3.cell? ⟨t3, 4, none⟩ = some (.int .u16 0) := cell_of a3
  have x5 : w3.cell? ⟨t3, 5, none⟩ = some (.slice none 0 0) := cell_of a3
  obtain ⟨Fa, nf, cf, ga, na, ca, q0, h1, h2, q1, h3, h4, q2⟩ := HCO.out.low L3.out
  have hn0 : (0 : Int) < (nf : Int) := by omega
  have hn1 : (0 : Int) < (na : Int) := by omega
  have hn2 : 0 < nf := h1
  have hn3 : 0 < na := h3
  clear a3 HCO h1 h2 h3 h4
  go_upto_region 7 with fail
  go_quiet (fail)
  go_wp2_with fail
  go_ret
  exact ⟨L3.out.trans ((Low.refl _ w3).drewN _ |>.mono L3.out.size), by first | rfl | simp⟩
theorem operation_any (w : World) (c : Nat) (o : Opn) (ho : OkOp o) (hn : NOk o) (hco : o.code = 26 → CallOk w c) : Calls Tryz.prog 136 #[.pointer (some ⟨c, 0, none⟩), .agg #[.int .i64 o.code, .int .i64 o.res, .int .i64 0, .int .i64 0, .int .u16 o.n, .slice none 0 0]] w (fun e w' => Low w.heap.size w w' ∧ e = .returned (.bool true)) := by
  by_cases h26 : o.code = 26
  · obtain ⟨code, res, n⟩ := o
    simp only at h26
    subst h26
    have hr : res = -1 := ho.2.2.2 (show opRes 26 = false by decide)
    have hz : n = 0 := hn.2 (show (26 : Int) ≠ 24 by decide) (show (26 : Int) ≠ 25 by decide)
    subst hr hz
    exact operation_26 w c (hco rfl)
  · exact operation_plain w _ o ho hn h26
end Go.Proofs.YtnjdegjpmbdboaaGreat
namespace Go.Proofs.YtnjdegjpmbdboaaGreat
open Go.RowKit
set_option linter.unusedVariables false
set_option maxRecDepth 100000 in
set_option maxHeartbeats 4000000 in
theorem defined_any (w : World) (c bm am : Nat) (m m2 : List (Int × Value)) (v : Value) (k : Int) (h7 : w.cell? ⟨c, 7, none⟩ = some (.map (some bm))) (h8 : w.cell? ⟨c, 8, none⟩ = some (.map (some am))) (hb : IMap w bm m) (ha : IMap w am m2) (g0 : getI m 0 = some (.int .i64 0)) (g1 : getI m2 0 = some (.int .i64 (-1))) (hk : 0 ≤ k) (hz : Zeros w v) :
    Calls Tryz.prog 102 #[.pointer (some ⟨c, 0, none⟩), v, .int .i64 0, .int .i64 k] w (fun e w' => e = .returned (.bool true) ∧ w' = w) := by
  have hl1 : (Instr.lookup 53 (.map (some bm)) (.int .i64 0) true).run Tryz.prog w = .ok (.tuple #[.int .i64 0, .bool true]) w := by
    have := lookup_i (P := Tryz.prog) (t := 53) Tryz.underlying53 Tryz.underlying3 hb (k := 0) (z := .int .i64 0) (by kernel_rfl) true
    rw [g0] at this
    exact this
  have hl2 : (Instr.lookup 53 (.map (some am)) (.int .i64 0) false).run Tryz.prog w = .ok (.int .i64 (-1)) w := by
    have := lookup_i (P := Tryz.prog) (t := 53) Tryz.underlying53 Tryz.underlying3 ha (k := 0) (z := .int .i64 0) (by kernel_rfl) false
    rw [g1] at this
    exact this
  have hk1 : ¬ k ≤ -1 := by omega
  have hk2 : -1 < k := by omega
  obtain ⟨A, n, cc, rfl, hn, hz⟩ := hz
  have HZ := Lib.hid hz
  clear hb ha g0 g1 hk hz
  go_enter Tryz.func102, Tryz.ntmps102
  go_wp2_with fail
  go_loopw [16] (fun i wr => ∃ q : Nat, i = .int .i64 q ∧ q ≤ n ∧ wr = w) (fun i _ => n - (intOf i).toNat)
  case atStart => exact ⟨0, rfl, by omega, rfl⟩
  case round =>
    obtain ⟨q, rfl, hq, rfl⟩ := hrel
    by_cases hlt : q < n
    · have hlt' : (q : Int) < (n : Int) := by omega
      have hq0 : (0 : Int) ≤ (q : Int) := by omega
      have hqn : (q : Int) ≤ 2 := by omega
      rcases HZ.out with h0 | ⟨g, cs, rfl, hg, hx⟩
      · omega
      · have c0 : wr.cell? ⟨g, q, none⟩ = some (.int .i64 0) := (cell_of hg).trans (hx q hlt)
        clear hg hx
        go_wp2_with fail
        obtain ⟨w1, hw1⟩ : ∃ u, u = wr := ⟨_, rfl⟩
        go_loopw [13] (fun b wz => b = .int .i64 0 ∧ wz = wr) (fun _ _ => 0)
        case atStart => exact ⟨rfl, rfl⟩
        case round =>
          obtain ⟨rfl, rfl⟩ := hrel
          go_wp2_with fail
          exact ⟨⟨q + 1, rfl, hlt, by first | rfl | trivial⟩, by show n - ((q : Int) + 1).toNat < n - ((q : Int)).toNat; omega⟩
    · have hlt' : ¬ (q : Int) < (n : Int) := by omega
      go_wp2_with fail
      go_ret
      exact ⟨rfl, rfl⟩
end Go.Proofs.YtnjdegjpmbdboaaGreat
