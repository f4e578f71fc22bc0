/- rule: it changes none of the statement's operations. -/
import Derived.Test.YtnjdegjpmbdboaaGreatQA
namespace Go.Proofs.YtnjdegjpmbdboaaGreat
open Go.RowKit
set_option linter.unusedVariables false
set_option maxRecDepth 100000 in
set_option maxHeartbeats 8000000 in
theorem rule_other (w : World) (gr : Nat) (c res n : Int) (hc : c ∈ [18, 19, 20, 21, 22, 23, 24, 25, 26, 27]) : Calls Tryz.prog 39 #[.pointer (some ⟨gr, 0, none⟩), .agg #[.int .i64 c, .int .i64 res, .int .i64 0, .int .i64 0, .int .u16 n, .slice none 0 0]] w (fun e w' => e = .returned (.tuple #[.agg #[.int .i64 c, .int .i64 res, .int .i64 0, .int .i64 0, .int .u16 n, .slice none 0 0], .int .i64 (-1)]) ∧ Low w.heap.size w w') := by
  have n3 : ¬ c = 3 := by rintro rfl; revert hc; decide
  have n4 : ¬ c = 4 := by rintro rfl; revert hc; decide
  have m3 : (c != 3) = true := by simpa using n3
  have m4 : (c != 4) = true := by simpa using n4
  have h17 : 17 < c := by
    simp only [List.mem_cons, List.not_mem_nil, or_false] at hc
    omega
  have h5 : ¬ c < 5 := by omega
  clear hc
  obtain ⟨S, hS⟩ : ∃ S, w.heap.size = S := ⟨_, rfl⟩
  have l2 := low_two w (.cells #[.int .i64 c, .int .i64 res, .int .i64 0, .int .i64 0, .int .u16 n, .slice none 0 0] 33) (.cells #[.int .i64 0, .int .i64 0, .int .i64 0, .int .i64 0, .int .u16 0, .slice none 0 0] 33)
  obtain ⟨a1, s1, u1⟩ := alloc_at (.cells #[.int .i64 c, .int .i64 res, .int .i64 0, .int .i64 0, .int .u16 n, .slice none 0 0] 33) hS
  obtain ⟨a2, s2, u2⟩ := alloc_at (.cells #[.int .i64 0, .int .i64 0, .int .i64 0, .int .i64 0, .int .u16 0, .slice none 0 0] 33) s1
  have b2 := u2 _ _ a1
  clear u1 u2 a1 s1
  go_enter Tryz.func39, Tryz.ntmps39
  go_upto_region 1 with fail
  generalize (w.alloc (.cells #[.int .i64 c, .int .i64 res, .int .i64 0, .int .i64 0, .int .u16 n, .slice none 0 0] 33)).alloc (.cells #[.int .i64 0, .int .i64 0, .int .i64 0, .int .i64 0, .int .u16 0, .slice none 0 0] 33) = w3 at l2 b2 a2 s2 ⊢
  have x0 : w3.cell? ⟨S, 0, none⟩ = some (.int .i64 c) := cell_of b2
  have x1 : w3.cell? ⟨S, 1, none⟩ = some (.int .i64 res) := cell_of b2
  have x2 : w3.cell? ⟨S, 2, none⟩ = some (.int .i64 0) := cell_of b2
  have x3 : w3.cell? ⟨S, 3, none⟩ = some (.int .i64 0) := cell_of b2
  have x4 : w3.cell? ⟨S, 4, none⟩ = some (.int .u16 n) := cell_of b2
  have x5 : w3.cell? ⟨S, 5, none⟩ = some (.slice none 0 0) := cell_of b2
  have y0 : w3.cell? ⟨S + 1, 0, none⟩ = some (.int .i64 0) := cell_of a2
  have y1 : w3.cell? ⟨S + 1, 1, none⟩ = some (.int .i64 0) := cell_of a2
  have y2 : w3.cell? ⟨S + 1, 2, none⟩ = some (.int .i64 0) := cell_of a2
  have y3 : w3.cell? ⟨S + 1, 3, none⟩ = some (.int .i64 0) := cell_of a2
  have y4 : w3.cell? ⟨S + 1, 4, none⟩ = some (.int .u16 0) := cell_of a2
  have y5 : w3.cell? ⟨S + 1, 5, none⟩ = some (.slice none 0 0) := cell_of a2
  have fw0 : w3.frozen? ⟨S + 1, 0, none⟩ = false := free_of a2
  have fw1 : w3.frozen? ⟨S + 1, 1, none⟩ = false := free_of a2
  have fw2 : w3.frozen? ⟨S + 1, 2, none⟩ = false := free_of a2
  have fw3 : w3.frozen? ⟨S + 1, 3, none⟩ = false := free_of a2
  have fw4 : w3.frozen? ⟨S + 1, 4, none⟩ = false := free_of a2
  have fw5 : w3.frozen? ⟨S + 1, 5, none⟩ = false := free_of a2
  rw [hS] at l2
  have A2 := Lib.hid a2; have L2 := Lib.hid l2
  clear a2 b2 l2 s2
  go_wp2_with fail
  have hfin := six_sets (v0 := .int .i64 c) (v1 := .int .i64 res) (v2 := .int .i64 0) (v3 := .int .i64 0) (v4 := .int .u16 n) (v5 := .slice none 0 0) (w := w3) A2.out _ rfl
  clear x0 x1 x2 x3 x4 x5 y0 y1 y2 y3 y4 y5 fw0 fw1 fw2 fw3 fw4 fw5
  generalize World.setCell _ _ _ = wF at hfin ⊢
  obtain ⟨hz, _, _, hIF⟩ := hfin
  have x0 : wF.cell? ⟨S + 1, 0, none⟩ = some (.int .i64 c) := cell_of hz
  have x1 : wF.cell? ⟨S + 1, 1, none⟩ = some (.int .i64 res) := cell_of hz
  have x2 : wF.cell? ⟨S + 1, 2, none⟩ = some (.int .i64 0) := cell_of hz
  have x3 : wF.cell? ⟨S + 1, 3, none⟩ = some (.int .i64 0) := cell_of hz
  have x4 : wF.cell? ⟨S + 1, 4, none⟩ = some (.int .u16 n) := cell_of hz
  have x5 : wF.cell? ⟨S + 1, 5, none⟩ = some (.slice none 0 0) := cell_of hz
  refine bodyPost_ret (v := .tuple #[.agg #[.int .i64 c, .int .i64 res, .int .i64 0, .int .i64 0, .int .u16 n, .slice none 0 0], .int .i64 (-1)]) (by simp [results, Tryz.results39, go_sem, x0, x1, x2, x3, x4, x5]; done) rfl ?_
  exact ⟨rfl, hIF S (fun x => Low S w x) (Inv.low _ _ (by omega)) (by omega) L2.out⟩
set_option maxRecDepth 100000 in
set_option maxHeartbeats 8000000 in
theorem rule_neg (w : World) (gr df nm : Nat) (res n : Int) (hg : w.cell? ⟨gr, 3, none⟩ = some (.map (some df))) (hn : w.cell? ⟨gr, 4, none⟩ = some (.map (some nm))) (hd : DefOk w df) (he : Empty w nm) : Calls Tryz.prog 39 #[.pointer (some ⟨gr, 0, none⟩), .agg #[.int .i64 3, .int .i64 res, .int .i64 0, .int .i64 0, .int .u16 n, .slice none 0 0]] w (fun e w' => e = .returned (.tuple #[.agg #[.int .i64 3, .int .i64 res, .int .i64 0, .int .i64 0, .int .u16 n, .slice none 0 0], .int .i64 (-1)]) ∧ Low w.heap.size w w') := by
  obtain ⟨S, hS⟩ : ∃ S, w.heap.size = S := ⟨_, rfl⟩
  have l2 := low_two w (.cells #[.int .i64 3, .int .i64 res, .int .i64 0, .int .i64 0, .int .u16 n, .slice none 0 0] 33) (.cells #[.int .i64 0, .int .i64 0, .int .i64 0, .int .i64 0, .int .u16 0, .slice none 0 0] 33)
  obtain ⟨a1, s1, u1⟩ := alloc_at (.cells #[.int .i64 3, .int .i64 res, .int .i64 0, .int .i64 0, .int .u16 n, .slice none 0 0] 33) hS
  obtain ⟨a2, s2, u2⟩ := alloc_at (.cells #[.int .i64 0, .int .i64 0, .int .i64 0, .int .i64 0, .int .u16 0, .slice none 0 0] 33) s1
  have b2 := u2 _ _ a1
  have d2 := hd.low l2
  have e2 := he.low l2
  have g2 := (World.cell?_of_block (a := ⟨gr, 3, none⟩) (l2.block gr (cell_lt hg))).trans hg
  have g4 := (World.cell?_of_block (a := ⟨gr, 4, none⟩) (l2.block gr (cell_lt hg))).trans hn
  clear u1 u2 a1 s1 hd hg hn he
  go_enter Tryz.func39, Tryz.ntmps39
  go_upto_region 1 with fail
  generalize (w.alloc (.cells #[.int .i64 3, .int .i64 res, .int .i64 0, .int .i64 0, .int .u16 n, .slice none 0 0] 33)).alloc (.cells #[.int .i64 0, .int .i64 0, .int .i64 0, .int .i64 0, .int .u16 0, .slice none 0 0] 33) = w3 at l2 b2 a2 s2 d2 e2 g2 g4 ⊢
  have x0 : w3.cell? ⟨S, 0, none⟩ = some (.int .i64 3) := cell_of b2
  have x1 : w3.cell? ⟨S, 1, none⟩ = some (.int .i64 res) := cell_of b2
  have x2 : w3.cell? ⟨S, 2, none⟩ = some (.int .i64 0) := cell_of b2
  have x3 : w3.cell? ⟨S, 3, none⟩ = some (.int .i64 0) := cell_of b2
  have x4 : w3.cell? ⟨S, 4, none⟩ = some (.int .u16 n) := cell_of b2
  have x5 : w3.cell? ⟨S, 5, none⟩ = some (.slice none 0 0) := cell_of b2
  have y0 : w3.cell? ⟨S + 1, 0, none⟩ = some (.int .i64 0) := cell_of a2
  have fw0 : w3.frozen? ⟨S + 1, 0, none⟩ = false := free_of a2
  have y1 : w3.cell? ⟨S + 1, 1, none⟩ = some (.int .i64 0) := cell_of a2
  have fw1 : w3.frozen? ⟨S + 1, 1, none⟩ = false := free_of a2
  have y2 : w3.cell? ⟨S + 1, 2, none⟩ = some (.int .i64 0) := cell_of a2
  have fw2 : w3.frozen? ⟨S + 1, 2, none⟩ = false := free_of a2
  have y3 : w3.cell? ⟨S + 1, 3, none⟩ = some (.int .i64 0) := cell_of a2
  have fw3 : w3.frozen? ⟨S + 1, 3, none⟩ = false := free_of a2
  have y4 : w3.cell? ⟨S + 1, 4, none⟩ = some (.int .u16 0) := cell_of a2
  have fw4 : w3.frozen? ⟨S + 1, 4, none⟩ = false := free_of a2
  have y5 : w3.cell? ⟨S + 1, 5, none⟩ = some (.slice none 0 0) := cell_of a2
  have fw5 : w3.frozen? ⟨S + 1, 5, none⟩ = false := free_of a2
  rw [hS] at l2
  have hl : ∀ m, (Instr.lookup 68 (.map (some nm)) (.int .i64 0) true).run Tryz.prog (w3.drewN m) = .ok (.tuple #[.int .u16 0, .bool false]) (w3.drewN m) := fun m => num_none (e2.low ((Low.refl _ w3).drewN m)) _
  have hl0 := num_none e2 (.int .i64 0)
  have hl1 := num_none (w := w3.drew) (e2.low (Low.refl _ w3).drew) (.int .i64 0)
  have hop := operands_any w3 3 (by simp [OkCode])
  have A2 := Lib.hid a2; have B2 := Lib.hid b2; have L2 := Lib.hid l2
  have hsi := fun wx (lx : Low w3.heap.size w3 wx) => single_any wx gr df res n ((World.cell?_of_block (a := ⟨gr, 3, none⟩) (lx.block gr (cell_lt g2))).trans g2) (d2.low lx)
  clear a2 b2 l2 d2 e2
  go_upto_region 4 with (first
    | (go_at_call 71; refine hop.mono ?_; rintro e w4 ⟨rfl, he4⟩; rw [he4]; clear he4 w4; simp only [opA, opB])
    | fail)
  go_quiet (fail)
  clear x0 x1 x2 x3 x4 x5 y0 y1 y2 y3 y4 y5 fw0 fw1 fw2 fw3 fw4 fw5
  have x0 : w3.cell? ⟨S, 0, none⟩ = some (.int .i64 3) := cell_of B2.out
  have x1 : w3.cell? ⟨S, 1, none⟩ = some (.int .i64 res) := cell_of B2.out
  have x2 : w3.cell? ⟨S, 2, none⟩ = some (.int .i64 0) := cell_of B2.out
  have x3 : w3.cell? ⟨S, 3, none⟩ = some (.int .i64 0) := cell_of B2.out
  have x4 : w3.cell? ⟨S, 4, none⟩ = some (.int .u16 n) := cell_of B2.out
  have x5 : w3.cell? ⟨S, 5, none⟩ = some (.slice none 0 0) := cell_of B2.out
  go_wp2_with (first
    | (go_at_call 74; refine (hsi _ ((Low.refl _ w3).drewN _)).mono ?_; rintro e w5 ⟨rfl, l5⟩; have l6 : Low w3.heap.size w3 w5 := Low.trans ((Low.refl w3.heap.size w3).drewN _) l5; clear l5; have a5 := l6.some A2.out
       have y0 : w5.cell? ⟨S + 1, 0, none⟩ = some (.int .i64 0) := cell_of a5
       have fw0 : w5.frozen? ⟨S + 1, 0, none⟩ = false := free_of a5
       have y1 : w5.cell? ⟨S + 1, 1, none⟩ = some (.int .i64 0) := cell_of a5
       have fw1 : w5.frozen? ⟨S + 1, 1, none⟩ = false := free_of a5
       have y2 : w5.cell? ⟨S + 1, 2, none⟩ = some (.int .i64 0) := cell_of a5
       have fw2 : w5.frozen? ⟨S + 1, 2, none⟩ = false := free_of a5
       have y3 : w5.cell? ⟨S + 1, 3, none⟩ = some (.int .i64 0) := cell_of a5
       have fw3 : w5.frozen? ⟨S + 1, 3, none⟩ = false := free_of a5
       have y4 : w5.cell? ⟨S + 1, 4, none⟩ = some (.int .u16 0) := cell_of a5
       have fw4 : w5.frozen? ⟨S + 1, 4, none⟩ = false := free_of a5
       have y5 : w5.cell? ⟨S + 1, 5, none⟩ = some (.slice none 0 0) := cell_of a5
       have fw5 : w5.frozen? ⟨S + 1, 5, none⟩ = false := free_of a5
       have LL := Lib.hid ((L2.out).trans (l6.mono (by omega))); clear L2 A2; have A2 := Lib.hid a5; clear a5))
  have hfin := six_sets (v0 := .int .i64 3) (v1 := .int .i64 res) (v2 := .int .i64 0) (v3 := .int .i64 0) (v4 := .int .u16 n) (v5 := .slice none 0 0) (w := w5) A2.out _ rfl
  clear x0 x1 x2 x3 x4 x5 y0 y1 y2 y3 y4 y5 fw0 fw1 fw2 fw3 fw4 fw5
  generalize World.setCell _ _ _ = wF at hfin ⊢
  obtain ⟨hz, _, _, hIF⟩ := hfin
  have x0 : wF.cell? ⟨S + 1, 0, none⟩ = some (.int .i64 3) := cell_of hz
  have x1 : wF.cell? ⟨S + 1, 1, none⟩ = some (.int .i64 res) := cell_of hz
  have x2 : wF.cell? ⟨S + 1, 2, none⟩ = some (.int .i64 0) := cell_of hz
  have x3 : wF.cell? ⟨S + 1, 3, none⟩ = some (.int .i64 0) := cell_of hz
  have x4 : wF.cell? ⟨S + 1, 4, none⟩ = some (.int .u16 n) := cell_of hz
  have x5 : wF.cell? ⟨S + 1, 5, none⟩ = some (.slice none 0 0) := cell_of hz
  refine bodyPost_ret (v := .tuple #[.agg #[.int .i64 3, .int .i64 res, .int .i64 0, .int .i64 0, .int .u16 n, .slice none 0 0], .int .i64 (-1)]) (by simp [results, Tryz.results39, go_sem, x0, x1, x2, x3, x4, x5]; done) rfl ?_
  have hlast : Low S w wF := hIF S (fun x => Low S w x) (Inv.low _ _ (by omega)) (by omega) LL.out
  first
    | exact ⟨rfl, hlast⟩
    | exact ⟨rfl, hS.symm ▸ hlast⟩
set_option maxRecDepth 100000 in
set_option maxHeartbeats 8000000 in
theorem rule_div (w : World) (gr df nm : Nat) (res n : Int) (hg : w.cell? ⟨gr, 3, none⟩ = some (.map (some df))) (hn : w.cell? ⟨gr, 4, none⟩ = some (.map (some nm))) (hd : DefOk w df) (he : Empty w nm) : Calls Tryz.prog 39 #[.pointer (some ⟨gr, 0, none⟩), .agg #[.int .i64 8, .int .i64 res, .int .i64 0, .int .i64 0, .int .u16 n, .slice none 0 0]] w (fun e w' => e = .returned (.tuple #[.agg #[.int .i64 8, .int .i64 res, .int .i64 0, .int .i64 0, .int .u16 n, .slice none 0 0], .int .i64 (-1)]) ∧ Low w.heap.size w w') := by
  obtain ⟨S, hS⟩ : ∃ S, w.heap.size = S := ⟨_, rfl⟩
  have l2 := low_two w (.cells #[.int .i64 8, .int .i64 res, .int .i64 0, .int .i64 0, .int .u16 n, .slice none 0 0] 33) (.cells #[.int .i64 0, .int .i64 0, .int .i64 0, .int .i64 0, .int .u16 0, .slice none 0 0] 33)
  obtain ⟨a1, s1, u1⟩ := alloc_at (.cells #[.int .i64 8, .int .i64 res, .int .i64 0, .int .i64 0, .int .u16 n, .slice none 0 0] 33) hS
  obtain ⟨a2, s2, u2⟩ := alloc_at (.cells #[.int .i64 0, .int .i64 0, .int .i64 0, .int .i64 0, .int .u16 0, .slice none 0 0] 33) s1
  have b2 := u2 _ _ a1
  have d2 := hd.low l2
  have e2 := he.low l2
  have g2 := (World.cell?_of_block (a := ⟨gr, 3, none⟩) (l2.block gr (cell_lt hg))).trans hg
  have g4 := (World.cell?_of_block (a := ⟨gr, 4, none⟩) (l2.block gr (cell_lt hg))).trans hn
  clear u1 u2 a1 s1 hd hg hn he
  go_enter Tryz.func39, Tryz.ntmps39
  go_upto_region 1 with fail
  generalize (w.alloc (.cells #[.int .i64 8, .int .i64 res, .int .i64 0, .int .i64 0, .int .u16 n, .slice none 0 0] 33)).alloc (.cells #[.int .i64 0, .int .i64 0, .int .i64 0, .int .i64 0, .int .u16 0, .slice none 0 0] 33) = w3 at l2 b2 a2 s2 d2 e2 g2 g4 ⊢
  have x0 : w3.cell? ⟨S, 0, none⟩ = some (.int .i64 8) := cell_of b2
  have x1 : w3.cell? ⟨S, 1, none⟩ = some (.int .i64 res) := cell_of b2
  have x2 : w3.cell? ⟨S, 2, none⟩ = some (.int .i64 0) := cell_of b2
  have x3 : w3.cell? ⟨S, 3, none⟩ = some (.int .i64 0) := cell_of b2
  have x4 : w3.cell? ⟨S, 4, none⟩ = some (.int .u16 n) := cell_of b2
  have x5 : w3.cell? ⟨S, 5, none⟩ = some (.slice none 0 0) := cell_of b2
  have y0 : w3.cell? ⟨S + 1, 0, none⟩ = some (.int .i64 0) := cell_of a2
  have fw0 : w3.frozen? ⟨S + 1, 0, none⟩ = false := free_of a2
  have y1 : w3.cell? ⟨S + 1, 1, none⟩ = some (.int .i64 0) := cell_of a2
  have fw1 : w3.frozen? ⟨S + 1, 1, none⟩ = false := free_of a2
  have y2 : w3.cell? ⟨S + 1, 2, none⟩ = some (.int .i64 0) := cell_of a2
  have fw2 : w3.frozen? ⟨S + 1, 2, none⟩ = false := free_of a2
  have y3 : w3.cell? ⟨S + 1, 3, none⟩ = some (.int .i64 0) := cell_of a2
  have fw3 : w3.frozen? ⟨S + 1, 3, none⟩ = false := free_of a2
  have y4 : w3.cell? ⟨S + 1, 4, none⟩ = some (.int .u16 0) := cell_of a2
  have fw4 : w3.frozen? ⟨S + 1, 4, none⟩ = false := free_of a2
  have y5 : w3.cell? ⟨S + 1, 5, none⟩ = some (.slice none 0 0) := cell_of a2
  have fw5 : w3.frozen? ⟨S + 1, 5, none⟩ = false := free_of a2
  rw [hS] at l2
  have hl : ∀ m, (Instr.lookup 68 (.map (some nm)) (.int .i64 0) true).run Tryz.prog (w3.drewN m) = .ok (.tuple #[.int .u16 0, .bool false]) (w3.drewN m) := fun m => num_none (e2.low ((Low.refl _ w3).drewN m)) _
  have hl0 := num_none e2 (.int .i64 0)
  have hl1 := num_none (w := w3.drew) (e2.low (Low.refl _ w3).drew) (.int .i64 0)
  have hop := operands_any w3 8 (by simp [OkCode])
  have A2 := Lib.hid a2; have B2 := Lib.hid b2; have L2 := Lib.hid l2
  clear a2 b2 l2 d2 g2
  go_upto_region 4 with (first
    | (go_at_call 71; refine hop.mono ?_; rintro e w4 ⟨rfl, he4⟩; rw [he4]; clear he4 w4; simp only [opA, opB])
    | fail)
  go_quiet (fail)
  clear x0 x1 x2 x3 x4 x5 y0 y1 y2 y3 y4 y5 fw0 fw1 fw2 fw3 fw4 fw5 hl0 hl1
  have x0 : w3.cell? ⟨S, 0, none⟩ = some (.int .i64 8) := cell_of B2.out
  have x1 : w3.cell? ⟨S, 1, none⟩ = some (.int .i64 res) := cell_of B2.out
  have x2 : w3.cell? ⟨S, 2, none⟩ = some (.int .i64 0) := cell_of B2.out
  have x3 : w3.cell? ⟨S, 3, none⟩ = some (.int .i64 0) := cell_of B2.out
  have x4 : w3.cell? ⟨S, 4, none⟩ = some (.int .u16 n) := cell_of B2.out
  have x5 : w3.cell? ⟨S, 5, none⟩ = some (.slice none 0 0) := cell_of B2.out
  go_upto_region 7 with fail
  go_quiet (fail)
  go_wp2_with (first
    | (go_at_call 76; refine (twice_any _ _ res n).mono ?_; rintro e w5 ⟨rfl, l5⟩; have l6 : Low w3.heap.size w3 w5 := Low.trans ((Low.refl w3.heap.size w3).drewN _) l5; clear l5; have a5 := l6.some A2.out; have b5 := l6.some B2.out; clear x0 x1 x2 x3 x4 x5
       have x0 : w5.cell? ⟨S, 0, none⟩ = some (.int .i64 8) := cell_of b5
       have x1 : w5.cell? ⟨S, 1, none⟩ = some (.int .i64 res) := cell_of b5
       have x2 : w5.cell? ⟨S, 2, none⟩ = some (.int .i64 0) := cell_of b5
       have x3 : w5.cell? ⟨S, 3, none⟩ = some (.int .i64 0) := cell_of b5
       have x4 : w5.cell? ⟨S, 4, none⟩ = some (.int .u16 n) := cell_of b5
       have x5 : w5.cell? ⟨S, 5, none⟩ = some (.slice none 0 0) := cell_of b5
       have y0 : w5.cell? ⟨S + 1, 0, none⟩ = some (.int .i64 0) := cell_of a5
       have fw0 : w5.frozen? ⟨S + 1, 0, none⟩ = false := free_of a5
       have y1 : w5.cell? ⟨S + 1, 1, none⟩ = some (.int .i64 0) := cell_of a5
       have fw1 : w5.frozen? ⟨S + 1, 1, none⟩ = false := free_of a5
       have y2 : w5.cell? ⟨S + 1, 2, none⟩ = some (.int .i64 0) := cell_of a5
       have fw2 : w5.frozen? ⟨S + 1, 2, none⟩ = false := free_of a5
       have y3 : w5.cell? ⟨S + 1, 3, none⟩ = some (.int .i64 0) := cell_of a5
       have fw3 : w5.frozen? ⟨S + 1, 3, none⟩ = false := free_of a5
       have y4 : w5.cell? ⟨S + 1, 4, none⟩ = some (.int .u16 0) := cell_of a5
       have fw4 : w5.frozen? ⟨S + 1, 4, none⟩ = false := free_of a5
       have y5 : w5.cell? ⟨S + 1, 5, none⟩ = some (.slice none 0 0) := cell_of a5
       have fw5 : w5.frozen? ⟨S + 1, 5, none⟩ = false := free_of a5
       have LL := Lib.hid ((L2.out).trans (l6.mono (by omega))); clear L2 A2; have A2 := Lib.hid a5; clear a5))
  have hfin := six_sets (v0 := .int .i64 8) (v1 := .int .i64 res) (v2 := .int .i64 0) (v3 := .int .i64 0) (v4 := .int .u16 n) (v5 := .slice none 0 0) (w := w5) A2.out _ rfl
  clear x0 x1 x2 x3 x4 x5 y0 y1 y2 y3 y4 y5 fw0 fw1 fw2 fw3 fw4 fw5
  generalize World.setCell _ _ _ = wF at hfin ⊢
  obtain ⟨hz, _, _, hIF⟩ := hfin
  have x0 : wF.cell? ⟨S + 1, 0, none⟩ = some (.int .i64 8) := cell_of hz
  have x1 : wF.cell? ⟨S + 1, 1, none⟩ = some (.int .i64 res) := cell_of hz
  have x2 : wF.cell? ⟨S + 1, 2, none⟩ = some (.int .i64 0) := cell_of hz
  have x3 : wF.cell? ⟨S + 1, 3, none⟩ = some (.int .i64 0) := cell_of hz
  have x4 : wF.cell? ⟨S + 1, 4, none⟩ = some (.int .u16 n) := cell_of hz
  have x5 : wF.cell? ⟨S + 1, 5, none⟩ = some (.slice none 0 0) := cell_of hz
  refine bodyPost_ret (v := .tuple #[.agg #[.int .i64 8, .int .i64 res, .int .i64 0, .int .i64 0, .int .u16 n, .slice none 0 0], .int .i64 (-1)]) (by simp [results, Tryz.results39, go_sem, x0, x1, x2, x3, x4, x5]; done) rfl ?_
  have hlast : Low S w wF := hIF S (fun x => Low S w x) (Inv.low _ _ (by omega)) (by omega) LL.out
  first
    | exact ⟨rfl, hlast⟩
    | exact ⟨rfl, hS.symm ▸ hlast⟩
theorem rule_any (w : World) (gr df nm : Nat) (o : Opn) (hg : w.cell? ⟨gr, 3, none⟩ = some (.map (some df))) (hn : w.cell? ⟨gr, 4, none⟩ = some (.map (some nm))) (hd : DefOk w df) (he : Empty w nm) (hc : OkCode o.code) : Calls Tryz.prog 39 #[.pointer (some ⟨gr, 0, none⟩), .agg #[.int .i64 o.code, .int .i64 o.res, .int .i64 0, .int .i64 0, .int .u16 o.n, .slice none 0 0]] w (fun e w' => e = .returned (.tuple #[.agg #[.int .i64 o.code, .int .i64 o.res, .int .i64 0, .int .i64 0, .int .u16 o.n, .slice none 0 0], .int .i64 (-1)]) ∧ Low w.heap.size w w') := by
  obtain ⟨c, res, n⟩ := o
  by_cases h3 : c = 3
  · subst h3; exact rule_neg w gr df nm res n hg hn hd he
  · by_cases h8 : c = 8
    · subst h8; exact rule_div w gr df nm res n hg hn hd he
    · refine rule_other w gr c res n ?_
      simp only [OkCode, List.mem_cons, List.not_mem_nil, or_false] at hc ⊢
      omega
end Go.Proofs.YtnjdegjpmbdboaaGreat
