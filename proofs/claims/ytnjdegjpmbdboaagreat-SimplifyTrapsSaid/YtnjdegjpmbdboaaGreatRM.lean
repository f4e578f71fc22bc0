/- ir's checker: the header of a program without objects and banks. -/
import Derived.Test.YtnjdegjpmbdboaaGreatQ5
namespace Go.Proofs.YtnjdegjpmbdboaaGreat
open Go.RowKit
set_option linter.unusedVariables false
set_option maxRecDepth 100000 in
set_option maxHeartbeats 4000000 in
theorem starts_any (w : World) (F : Option Addr) (nf cf ga na ca e : Nat) (h : Int) (X Y : Value) (hf : nf ≤ 4) (hna : na ≤ 4) (he : e < nf) (hea : e < na) (hz : w.cell? ⟨ga, e, none⟩ = some (.int .i64 0)) :
    Calls Tryz.prog 96 #[.agg #[.slice F nf cf, .slice (some ⟨ga, 0, none⟩) na ca, .int .i64 e, .int .i64 h, X, Y], .int .i64 e] w (fun r w' => Low w.heap.size w w' ∧ r = .returned (.bool true)) := by
  have l1 : Low w.heap.size w (w.alloc (.cells #[.slice F nf cf, .slice (some ⟨ga, 0, none⟩) na ca, .int .i64 e, .int .i64 h, X, Y] 58)) := (Low.refl _ w).alloc (Nat.le_refl _) _
  have a1 := heap_new w (.cells #[.slice F nf cf, .slice (some ⟨ga, 0, none⟩) na ca, .int .i64 e, .int .i64 h, X, Y] 58)
  have z1 : (w.alloc (.cells #[.slice F nf cf, .slice (some ⟨ga, 0, none⟩) na ca, .int .i64 e, .int .i64 h, X, Y] 58)).cell? ⟨ga, e, none⟩ = some (.int .i64 0) := (World.cell?_of_block (l1.block _ (cell_lt hz))).trans hz
  clear hz
  have he' : (e : Int) < (nf : Int) := by omega
  have hea' : (e : Int) < (na : Int) := by omega
  have h0 : (0 : Int) ≤ (e : Int) := by omega
  go_enter Tryz.func96, Tryz.ntmps96
  go_upto_region 1 with fail
  obtain ⟨t1, ht1⟩ : ∃ t, t = w.heap.size := ⟨_, rfl⟩
  rw [← ht1] at a1 ⊢
  clear ht1
  generalize w.alloc (.cells #[.slice F nf cf, .slice (some ⟨ga, 0, none⟩) na ca, .int .i64 e, .int .i64 h, X, Y] 58) = w1 at a1 l1 z1 ⊢
  have y0 : w1.cell? ⟨t1, 0, none⟩ = some (.slice F nf cf) := cell_of a1
  have y1 : w1.cell? ⟨t1, 1, none⟩ = some (.slice (some ⟨ga, 0, none⟩) na ca) := cell_of a1
  have L1 := Lib.hid l1
  clear a1 l1
  go_wp2_with fail
  go_ret
  exact ⟨L1.out, rfl⟩
set_option maxRecDepth 100000 in
set_option maxHeartbeats 4000000 in
theorem places_nil (w : World) (F G : Value) (e h : Int) :
    Calls Tryz.prog 97 #[.agg #[F, G, .int .i64 e, .int .i64 h, .slice none 0 0, .slice none 0 0]] w (fun r w' => Low w.heap.size w w' ∧ r = .returned (.bool true)) := by
  have l1 : Low w.heap.size w (w.alloc (.cells #[F, G, .int .i64 e, .int .i64 h, .slice none 0 0, .slice none 0 0] 58)) := (Low.refl _ w).alloc (Nat.le_refl _) _
  have a1 := heap_new w (.cells #[F, G, .int .i64 e, .int .i64 h, .slice none 0 0, .slice none 0 0] 58)
  go_enter Tryz.func97, Tryz.ntmps97
  go_upto_region 1 with fail
  obtain ⟨t1, ht1⟩ : ∃ t, t = w.heap.size := ⟨_, rfl⟩
  rw [← ht1] at a1 ⊢
  clear ht1
  generalize w.alloc (.cells #[F, G, .int .i64 e, .int .i64 h, .slice none 0 0, .slice none 0 0] 58) = w1 at a1 l1 ⊢
  have y4 : w1.cell? ⟨t1, 4, none⟩ = some (.slice none 0 0) := cell_of a1
  have y5 : w1.cell? ⟨t1, 5, none⟩ = some (.slice none 0 0) := cell_of a1
  have L1 := Lib.hid l1
  clear a1 l1
  go_wp2_with fail
  go_loopw [12] (fun i wr => i = .int .i64 0 ∧ wr = w1) (fun _ _ => 0)
  case atStart => exact ⟨rfl, rfl⟩
  case round =>
    obtain ⟨rfl, rfl⟩ := hrel
    obtain ⟨w1, rfl⟩ : ∃ u, u = wr := ⟨_, rfl⟩
    go_wp2_with fail
    go_loopw [23] (fun i wr => i = .int .i64 0 ∧ wr = w1) (fun _ _ => 0)
    case atStart => exact ⟨rfl, rfl⟩
    case round =>
      obtain ⟨rfl, rfl⟩ := hrel
      go_wp2_with fail
      go_ret
      exact ⟨L1.out, rfl⟩
set_option maxRecDepth 100000 in
set_option maxHeartbeats 4000000 in
theorem header_any (w : World) (F : Option Addr) (nf cf ga ca e : Nat) (cs : Array Value) (hf : nf ≤ 4) (he : e < nf) (hg : w.heap[ga]? = some (.cells cs 3 (0, 0))) (hz : cs[e]? = some (.int .i64 0)) (hall : ∀ j, j < nf → ∃ z : Int, cs[j]? = some (.int .i64 z) ∧ 0 ≤ z ∧ z ≤ 8) :
    Calls Tryz.prog 68 #[.agg #[.slice F nf cf, .slice (some ⟨ga, 0, none⟩) nf ca, .int .i64 e, .int .i64 (-1), .slice none 0 0, .slice none 0 0]] w (fun r w' => Low w.heap.size w w' ∧ r = .returned (.int .i64 0)) := by
  have l1 : Low w.heap.size w (w.alloc (.cells #[.slice F nf cf, .slice (some ⟨ga, 0, none⟩) nf ca, .int .i64 e, .int .i64 (-1), .slice none 0 0, .slice none 0 0] 58)) := (Low.refl _ w).alloc (Nat.le_refl _) _
  have a1 := heap_new w (.cells #[.slice F nf cf, .slice (some ⟨ga, 0, none⟩) nf ca, .int .i64 e, .int .i64 (-1), .slice none 0 0, .slice none 0 0] 58)
  have g1 := l1.some hg
  clear hg
  have hnf' : (nf : Int) ≤ 4 := by omega
  go_enter Tryz.func68, Tryz.ntmps68
  go_upto_region 1 with fail
  obtain ⟨t1, ht1⟩ : ∃ t, t = w.heap.size := ⟨_, rfl⟩
  rw [← ht1] at a1 ⊢
  clear ht1
  generalize w.alloc (.cells #[.slice F nf cf, .slice (some ⟨ga, 0, none⟩) nf ca, .int .i64 e, .int .i64 (-1), .slice none 0 0, .slice none 0 0] 58) = w1 at a1 l1 g1 ⊢
  have y0 : w1.cell? ⟨t1, 0, none⟩ = some (.slice F nf cf) := cell_of a1
  have y1 : w1.cell? ⟨t1, 1, none⟩ = some (.slice (some ⟨ga, 0, none⟩) nf ca) := cell_of a1
  have y2 : w1.cell? ⟨t1, 2, none⟩ = some (.int .i64 e) := cell_of a1
  have y3 : w1.cell? ⟨t1, 3, none⟩ = some (.int .i64 (-1)) := cell_of a1
  have y4 : w1.cell? ⟨t1, 4, none⟩ = some (.slice none 0 0) := cell_of a1
  have y5 : w1.cell? ⟨t1, 5, none⟩ = some (.slice none 0 0) := cell_of a1
  have L1 := Lib.hid l1; have A1 := Lib.hid a1; have G1 := Lib.hid g1; have HALL := Lib.hid hall
  have hst := starts_any w1 F nf cf ga nf ca e (-1) (.slice none 0 0) (.slice none 0 0) hf hf he he ((cell_of g1).trans hz)
  clear a1 l1 g1 hall
  go_upto_region 5 with fail
  go_wp2_with fail
  go_loopw [31] (fun i wr => ∃ q : Nat, i = .int .i64 q ∧ q ≤ nf ∧ wr = w1) (fun i _ => nf - (intOf i).toNat)
  case atStart => exact ⟨0, rfl, by omega, rfl⟩
  case round =>
    obtain ⟨q, rfl, hq, rfl⟩ := hrel
    obtain ⟨w1, rfl⟩ : ∃ u, u = wr := ⟨_, rfl⟩
    by_cases hlt : q < nf
    · have hlt' : (q : Int) < (nf : Int) := by omega
      have hq0 : (0 : Int) ≤ (q : Int) := by omega
      have hqn : (q : Int) ≤ 4 := by omega
      obtain ⟨z, hz1, hz2, hz3⟩ := HALL.out q hlt
      have c0 : w1.cell? ⟨ga, q, none⟩ = some (.int .i64 z) := (cell_of G1.out).trans hz1
      have hz4 : ¬ z < 0 := by omega
      have hz5 : ¬ 8 < z := by omega
      clear hz1
      go_wp2_with fail
      exact ⟨⟨q + 1, by simp, hlt, trivial⟩, by show nf - ((q : Int) + 1).toNat < nf - ((q : Int)).toNat; omega⟩
    · have hlt' : ¬ (q : Int) < (nf : Int) := by omega
      obtain rfl : q = nf := by omega
      go_upto_region 13 with (first
        | (go_at_call 96; with_reducible refine hst.mono ?_; rintro r w2 ⟨l2, rfl⟩; have z3 : w2.cell? ⟨t1, 3, none⟩ = some (.int .i64 (-1)) := cell_of (Low.some l2 A1.out)))
      have a2 := Low.some l2 A1.out
      have z0 : w2.cell? ⟨t1, 0, none⟩ = some (.slice F q cf) := cell_of a2
      have z1 : w2.cell? ⟨t1, 1, none⟩ = some (.slice (some ⟨ga, 0, none⟩) q ca) := cell_of a2
      have z2 : w2.cell? ⟨t1, 2, none⟩ = some (.int .i64 e) := cell_of a2
      have z4 : w2.cell? ⟨t1, 4, none⟩ = some (.slice none 0 0) := cell_of a2
      have z5 : w2.cell? ⟨t1, 5, none⟩ = some (.slice none 0 0) := cell_of a2
      have L2 := Lib.hid (L1.out.trans (Low.mono l2 L1.out.size))
      have hpl := places_nil w2 (.slice F q cf) (.slice (some ⟨ga, 0, none⟩) q ca) e (-1)
      clear a2 l2 y0 y1 y2 y3 y4 y5 hst
      go_wp2_with (first
        | (go_at_call 97; with_reducible refine hpl.mono ?_; rintro r w3 ⟨l3, rfl⟩))
      go_ret
      exact ⟨L2.out.trans (Low.mono l3 L2.out.size), rfl⟩
end Go.Proofs.YtnjdegjpmbdboaaGreat
