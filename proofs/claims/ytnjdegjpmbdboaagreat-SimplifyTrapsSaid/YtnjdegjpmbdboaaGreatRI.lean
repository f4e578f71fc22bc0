/- The order of one block. -/
import Derived.Test.YtnjdegjpmbdboaaGreatRH
namespace Go.Proofs.YtnjdegjpmbdboaaGreat
open Go.RowKit
set_option linter.unusedVariables false
theorem ap172' : Ap Tryz.prog 172 174 2 16 := ⟨Tryz.underlying172, by
  obtain ⟨ti, hti, hz, hs, hb⟩ := info_of (show (Tryz.prog.info? 174).map (fun i => (i.zero, i.size, i.bytes)) = some (some (.agg #[.int .i64 0, .int .i64 0]), 2, 16) by kernel_rfl)
  exact ⟨ti, _, hti, hz, hs, hb, rfl⟩, by decide, by decide⟩
theorem enters141 : ∀ (args : Array Value) (w : World), (callFunc 141 args).run Tryz.prog w = .ok (.enter 141 args) w := enters_body Tryz.func141 (by kernel_rfl) rfl
set_option maxRecDepth 100000 in
set_option maxHeartbeats 4000000 in
theorem enter_any (w : World) (t3 t5 sb : Nat) (h3 : w.heap[t3]? = some (.cells #[.slice (some ⟨sb, 0, none⟩) 1 1] 171 (0, 0))) (hs : w.heap[sb]? = some (.cells #[.bool false] 4 (0, 0))) (h5 : w.heap[t5]? = some (.cells #[.slice none 0 0] 172 (0, 0))) :
    Calls Tryz.prog 141 #[.int .i64 0, .pointer (some ⟨t3, 0, none⟩), .pointer (some ⟨t5, 0, none⟩)] w (fun e w' => e = .returned (.tuple #[]) ∧ Chs [sb, t5] w w' ∧ ∃ gs c cs, w.heap.size ≤ gs ∧ 1 ≤ c ∧ w'.heap[t5]? = some (.cells #[.slice (some ⟨gs, 0, none⟩) 1 c] 172 (0, 0)) ∧ w'.heap[gs]? = some (.cells cs 174 (0, 0)) ∧ cs[0]? = some (.int .i64 0) ∧ cs[1]? = some (.int .i64 0)) := by
  have y3 : w.cell? ⟨t3, 0, none⟩ = some (.slice (some ⟨sb, 0, none⟩) 1 1) := cell_of h3
  have ys : w.cell? ⟨sb, 0, none⟩ = some (.bool false) := cell_of hs
  have fs : w.frozen? ⟨sb, 0, none⟩ = false := free_of hs
  have hne : t5 ≠ sb := by
    rintro rfl
    rw [h5] at hs; cases hs
  have a5 := (set_other (i := 0) (v := .bool true) hne).trans h5
  have c1 : Chs [sb, t5] w (w.setCell ⟨sb, 0, none⟩ (.bool true)) := Chs.setCell _ (by simp) _
  clear h3 hs h5 hne
  go_enter Tryz.func141, Tryz.ntmps141
  go_upto_region 1 with fail
  clear y3 ys fs
  generalize w.setCell ⟨sb, 0, none⟩ (.bool true) = wA at a5 c1 ⊢
  have y5 : wA.cell? ⟨t5, 0, none⟩ = some (.slice none 0 0) := cell_of a5
  have A5 := Lib.hid a5; have C1 := Lib.hid c1
  clear a5 c1
  go_wp2_with (first
    | (at_builtin; refine wpList_app1 (w := wA.alloc (.cells #[.int .i64 0, .int .i64 0] 174)) (P := Tryz.prog) (base := wA.heap.size) (n := 0) (m := 1) (xs := []) ap172' rfl (.tmp 7) (.tmp 10) rfl rfl (show Own _ wA.heap.size 174 2 (Value.slice none 0 0) 0 [] from Own.nil _ _ _ _) rfl (heap_new wA _) rfl (by simp [Value.oneCell']) (by omega) (by simp) ?_; intro v9 w9 happ0; have happ : App1 (wA.alloc (.cells #[.int .i64 0, .int .i64 0] 174)) w9 wA.heap.size 174 2 (.slice none 0 0) v9 0 [] 1 [.int .i64 0, .int .i64 0] := happ0; clear happ0; obtain ⟨g9, cr, cs, rfl, hSr, hr, hcr, hown⟩ := happ.row (k := 1) rfl (by decide); have l9 := ((Low.refl wA.heap.size wA).alloc (Nat.le_refl _) (.cells #[.int .i64 0, .int .i64 0] 174)).trans (happ.low (Own.nil _ _ _ _) (Nat.le_refl _) (by simp)); have k0 := Lib.hid (show cs[0]? = some (.int .i64 0) from (cell_of hr).symm.trans (hown.cell (j := 0) (u := .int .i64 0) rfl)); have k1 := Lib.hid (show cs[1]? = some (.int .i64 0) from (cell_of hr).symm.trans (hown.cell (j := 1) (u := .int .i64 0) rfl)); have R9 := Lib.hid hr; have o9 := l9.some A5.out; have f9 : w9.frozen? ⟨t5, 0, none⟩ = false := free_of o9; have x9 : w9.cell? ⟨t5, 0, none⟩ = some (.slice none 0 0) := cell_of o9; have L9 := Lib.hid l9; have O9 := Lib.hid o9; clear happ hown hr l9 o9))
  go_end0
  have ht5 := heap_lt A5.out
  have hgz : g9 ≠ t5 := by omega
  exact ⟨rfl, (C1.out.trans (Chs.of_low L9.out)).trans (Chs.setCell _ (by simp) _), g9, cr, cs, Nat.le_trans C1.out.size hSr, hcr, set_blk O9.out, (set_other hgz).trans R9.out, k0.out, k1.out⟩
theorem head_zero {t e : TypeId} {n : Nat} (hu : Tryz.prog.underlying t = some (.slice e)) (hs : ∀ u, (sizeOf e).run Tryz.prog u = .ok n u) (g c : Nat) : ∃ X c', ∀ u, (Instr.slice t (.slice (some ⟨g, 0, none⟩) 1 c) none (some (.int .i64 0)) none).run Tryz.prog u = .ok (.slice X 0 c') u := by
  refine ⟨some ⟨g, 0, none⟩, c, fun u => ?_⟩
  simp [Instr.slice, go_sem, run_underlying hu, hs, Addr.add]
/-- Order's variables. -/
theorem order_vars {w : World} {Q t3 t5 : Nat} (hQ : w.heap.size = Q) (h3 : t3 = Q + 1) (h5 : t5 = Q + 1 + 1) : ∀ w1, w1 = ((w.alloc (.cells #[.bool false] 4)).alloc (.cells #[.slice (some ⟨Q, 0, none⟩) 1 1] 171)).alloc (.cells #[.slice none 0 0] 172) → Low w.heap.size w w1 ∧ w1.heap[Q]? = some (.cells #[.bool false] 4 (0, 0)) ∧ w1.heap[t3]? = some (.cells #[.slice (some ⟨Q, 0, none⟩) 1 1] 171 (0, 0)) ∧ w1.heap[t5]? = some (.cells #[.slice none 0 0] 172 (0, 0)) := by
  rintro w1 rfl
  subst h3 h5
  obtain ⟨_, a, b, c, d⟩ := three_allocs (.cells #[.bool false] 4) (.cells #[.slice (some ⟨Q, 0, none⟩) 1 1] 171) (.cells #[.slice none 0 0] 172) hQ
  exact ⟨d, a, b, c⟩
set_option maxRecDepth 100000 in
set_option maxHeartbeats 8000000 in
theorem order_any (w : World) (r : Nat) (hr : w.heap[r]? = some (.cells #[.slice none 0 0] 22 (0, 0))) : Calls Tryz.prog 101 #[.agg #[.slice (some ⟨r, 0, none⟩) 1 1]] w (fun e w' => Low w.heap.size w w' ∧ ∃ gp c cs, e = .returned (.slice (some ⟨gp, 0, none⟩) 1 c) ∧ 1 ≤ c ∧ w.heap.size ≤ gp ∧ w'.heap[gp]? = some (.cells cs 3 (0, 0)) ∧ cs[0]? = some (.int .i64 0)) := by
  have hmf : ∀ (fn : Fn) (first cap : Array Value) (w : World), (Instr.makeFunc fn first cap).run Tryz.prog w = .ok (.func fn first cap) w := fun _ _ _ _ => rfl
  have hms : ∀ u : World, (Instr.makeSlice 171 (.int .i64 1) (.int .i64 1)).run Tryz.prog u = .ok (.slice (some ⟨u.heap.size, 0, none⟩) 1 1) (u.alloc (.cells #[.bool false] 4)) := fun u => by kernel_rfl
  have l1 : Low w.heap.size w (w.alloc (.cells #[.slice (some ⟨r, 0, none⟩) 1 1] 140)) := (Low.refl _ w).alloc (Nat.le_refl _) _
  have a1 := heap_new w (.cells #[.slice (some ⟨r, 0, none⟩) 1 1] 140)
  have r1 := l1.some hr
  clear hr
  go_enter Tryz.func101, Tryz.ntmps101
  go_upto_region 1 with fail
  obtain ⟨t1, ht1⟩ : ∃ t, t = w.heap.size := ⟨_, rfl⟩
  rw [← ht1] at a1 ⊢
  clear ht1
  generalize w.alloc (.cells #[.slice (some ⟨r, 0, none⟩) 1 1] 140) = w1 at a1 l1 r1 ⊢
  have y1 : w1.cell? ⟨t1, 0, none⟩ = some (.slice (some ⟨r, 0, none⟩) 1 1) := cell_of a1
  have hval := gvalid_any w1 r r1
  have L1 := Lib.hid l1; have A1 := Lib.hid a1; have R1 := Lib.hid r1
  clear a1 l1 r1
  go_upto_region 3 with (first
    | (go_at_call 138; with_reducible refine hval.mono ?_; rintro e w2 ⟨l2, rfl⟩; have L2 := Lib.hid (L1.out.trans (Low.mono l2 L1.out.size)); have A2 := Lib.hid (l2.some A1.out); have R2 := Lib.hid (l2.some R1.out); clear l2))
  have y2 : w2.cell? ⟨t1, 0, none⟩ = some (.slice (some ⟨r, 0, none⟩) 1 1) := cell_of A2.out
  obtain ⟨Q, hQ⟩ : ∃ Q, w2.heap.size = Q := ⟨_, rfl⟩
  clear y1 hval L1 A1 R1
  go_upto_region 7 with fail
  obtain ⟨t3, ht3⟩ : ∃ t, t = Q + 1 := ⟨_, rfl⟩
  obtain ⟨t5, ht5⟩ : ∃ t, t = Q + 1 + 1 := ⟨_, rfl⟩
  have h3 := order_vars hQ ht3 ht5 _ rfl
  rw [← ht5, ← ht3]
  have HQ := Lib.hid (And.intro hQ (And.intro ht3 ht5))
  clear hQ ht3 ht5
  generalize ((w2.alloc (.cells #[.bool false] 4)).alloc (.cells #[.slice (some ⟨Q, 0, none⟩) 1 1] 171)).alloc (.cells #[.slice none 0 0] 172) = w3 at h3 ⊢
  obtain ⟨l3, hs3, h33, h53⟩ := h3
  have hen := enter_any w3 t3 t5 Q h33 hs3 h53
  have L3 := Lib.hid l3
  clear l3 hs3 h33 h53 y2
  go_upto_region 8 with (first
    | (go_at_call 141; with_reducible refine hen.mono ?_; rintro e w4 ⟨rfl, hc4, gs, cc, cs, hgs, hcc, h54, hg4, k0, k1⟩))
  have l24 : Low w2.heap.size w2 w4 := L3.out.trans (hc4.low (by intro b hb; simp only [List.mem_cons, List.not_mem_nil, or_false] at hb; obtain ⟨e1, e2, e3⟩ := HQ.out; omega) L3.out.size)
  have A4 := Lib.hid (l24.some A2.out); have R4 := Lib.hid (l24.some R2.out); have L4 := Lib.hid (L2.out.trans (l24.mono L2.out.size)); have H54 := Lib.hid h54; have HG4 := Lib.hid hg4; have K0 := Lib.hid k0; have K1 := Lib.hid k1
  have H5w : Hid (w.heap.size ≤ t5) := Lib.hid (by obtain ⟨e1, e2, e3⟩ := HQ.out; have := L2.out.size; omega)
  clear hc4 h54 hg4 k0 k1 l24 hen
  go_loopw [4] (fun p wr => (p = .slice none 0 0 ∧ wr = w4) ∨ (Low w.heap.size w wr ∧ ∃ gp c cs X c', p = .slice (some ⟨gp, 0, none⟩) 1 c ∧ 1 ≤ c ∧ w.heap.size ≤ gp ∧ wr.heap[gp]? = some (.cells cs 3 (0, 0)) ∧ cs[0]? = some (.int .i64 0) ∧ wr.heap[t5]? = some (.cells #[.slice X 0 c'] 172 (0, 0)))) (fun _ wr => lenAt wr t5)
  case atStart => exact .inl ⟨rfl, rfl⟩
  case round =>
    rcases hrel with ⟨rfl, rfl⟩ | ⟨hL, gp, c, cs', X, c', rfl, hc1, hgp, hgc, hc0, h5⟩
    · obtain ⟨w4, rfl⟩ : ∃ u, u = wr := ⟨_, rfl⟩
      have y5 : w4.cell? ⟨t5, 0, none⟩ = some (.slice (some ⟨gs, 0, none⟩) 1 cc) := cell_of H54.out
      have y1 : w4.cell? ⟨t1, 0, none⟩ = some (.slice (some ⟨r, 0, none⟩) 1 1) := cell_of A4.out
      have yr : w4.cell? ⟨r, 0, none⟩ = some (.slice none 0 0) := cell_of R4.out
      have z0 : w4.cell? ⟨gs, 0, none⟩ = some (.int .i64 0) := (cell_of HG4.out).trans K0.out
      have z1 : w4.cell? ⟨gs, 1, none⟩ = some (.int .i64 0) := (cell_of HG4.out).trans K1.out
      go_upto_region 10 with fail
      go_quiet (fail)
      go_upto_region 12 with fail
      have ld : Low w4.heap.size w4 (w4.drewN nq) := (Low.refl _ w4).drewN nq
      have hG4 := ld.some HG4.out; have h54 := ld.some H54.out
      have LD := Lib.hid (L4.out.trans (ld.mono L4.out.size))
      have HM4 : Hid (lenAt w4 t5 = 1) := Lib.hid (lenAt_of H54.out (by rfl))
      clear ld y5 y1 yr z0 z1
      generalize w4.drewN nq = wd at hG4 h54 LD ⊢
      have z0 : wd.cell? ⟨gs, 0, none⟩ = some (.int .i64 0) := (cell_of hG4).trans K0.out
      have H54d := Lib.hid h54
      clear hG4 h54
      obtain ⟨X, c', hsl⟩ := head_zero (t := 172) (n := 2) Tryz.underlying172 (fun u => by kernel_rfl) gs cc
      go_upto_region 13 with (first
        | (at_builtin; refine wpList_app1 (w := wd.alloc (.cells #[.int .i64 0] 3)) (P := Tryz.prog) (base := wd.heap.size) (n := 0) (m := 1) (xs := []) ap22 rfl (.tmp 43) (.tmp 48) rfl rfl (show Own _ wd.heap.size 3 1 (Value.slice none 0 0) 0 [] from Own.nil _ _ _ _) rfl (heap_new wd _) rfl (by simp [Value.oneCell']) (by omega) (by simp) ?_; intro v9 w9 happ0; have happ : App1 (wd.alloc (.cells #[.int .i64 0] 3)) w9 wd.heap.size 3 1 (.slice none 0 0) v9 0 [] 1 [.int .i64 0] := happ0; clear happ0; obtain ⟨g9, cr, cs9, rfl, hSr, hr, hcr, hown⟩ := happ.row (k := 1) rfl (by decide); have l9 := ((Low.refl wd.heap.size wd).alloc (Nat.le_refl _) (.cells #[.int .i64 0] 3)).trans (happ.low (Own.nil _ _ _ _) (Nat.le_refl _) (by simp)); have k9 := Lib.hid (show cs9[0]? = some (.int .i64 0) from (cell_of hr).symm.trans (hown.cell (j := 0) (u := .int .i64 0) rfl)); have R9 := Lib.hid hr; have o9 := l9.some H54d.out; have f9 : w9.frozen? ⟨t5, 0, none⟩ = false := free_of o9; have x9 : w9.cell? ⟨t5, 0, none⟩ = some (.slice (some ⟨gs, 0, none⟩) 1 cc) := cell_of o9; have L9 := Lib.hid l9; have O9 := Lib.hid o9; clear happ hown hr l9 o9 z0))
      have ht5 := heap_lt H54d.out
      have hgz : g9 ≠ t5 := by omega
      have hw9 : w.heap.size ≤ g9 := Nat.le_trans LD.out.size hSr
      have HF := Lib.hid (And.intro ((LD.out.trans (L9.out.mono LD.out.size)).setCell (i := 0) (g := t5) H5w.out (.slice X 0 c')) (And.intro ((set_other (i := 0) (v := .slice X 0 c') hgz).trans R9.out) (set_blk (i := 0) (v := .slice X 0 c') O9.out)))
      clear ht5 hgz
      go_wp2_with fail
      exact ⟨.inr ⟨HF.out.1, g9, cr, cs9, X, c', rfl, hcr, hw9, HF.out.2.1, k9.out, HF.out.2.2⟩, by rw [HM4.out, lenAt_of HF.out.2.2 (by rfl)]; decide⟩
    · obtain ⟨wz, rfl⟩ : ∃ u, u = wr := ⟨_, rfl⟩
      have y5 : wz.cell? ⟨t5, 0, none⟩ = some (.slice X 0 c') := cell_of h5
      have hrv := reverse_one wz (some ⟨gp, 0, none⟩) c
      have HL := Lib.hid hL; have HGC := Lib.hid hgc
      clear hL hgc h5
      go_wp2_with (first
        | (go_at_call 142; with_reducible refine hrv.mono ?_; rintro e w9 ⟨rfl, rfl⟩))
      go_ret
      exact ⟨HL.out, gp, c, cs', rfl, hc1, hgp, HGC.out, hc0⟩
end Go.Proofs.YtnjdegjpmbdboaaGreat
