/- ir's checker: a function of one block. -/
import Derived.Test.YtnjdegjpmbdboaaGreatRN
namespace Go.Proofs.YtnjdegjpmbdboaaGreat
open Go.RowKit
set_option linter.unusedVariables false
/-- A call of a function, as a step of a region that draws its order; the guard is known. -/
theorem step_call_g {P : Program} {ops : Array Oper} {o : Oper} {a : Act} {w : World} {KK : Act → World → Prop} {Q : Exit → Act → World → Prop} {E : Prop} (hw : Region.wanted o (yielded ops a.tmps) = true) (f : FuncId) (args : Array Value) (hr : (execOp a.eval o).run P w = .ok (.enter f args) w)
    (R : Value → World → Prop) (hc : Calls P f args w (fun e w' => ∃ v, e = .returned v ∧ R v w')) (h : ∀ v w', R v w' → KK (a.put o.dst v) w') : if Region.wanted o (yielded ops a.tmps) = true then Oper.wp P o a w KK Q else E := by
  rw [if_pos hw]
  unfold Oper.wp
  rw [hr, Oper.upon_enter]
  refine hc.mono ?_
  rintro e w' ⟨v, rfl, hR⟩
  exact h v w' hR
theorem at_other {w : World} {d c i : Nat} {v : Value} {o : Obj} {cs : Array Value} (hd : w.heap[d]? = some o) (hc : w.heap[c]? = some (.cells cs 137 (0, 0))) (hne : ∀ cs, o ≠ .cells cs 137 (0, 0)) : (w.setCell ⟨c, i, none⟩ v).heap[d]? = some o := by
  refine (set_other ?_).trans hd
  rintro rfl
  rw [hc] at hd
  cases hd
  exact hne _ rfl
/-- The checker's variables. -/
theorem chk_vars {w : World} {bm am c : Nat} (row : Array Value) (hb : w.heap.size = bm) (ha : am = bm + 1) (hc : c = bm + 1 + 1) : ∀ w1, w1 = ((w.alloc (.map #[] 0)).alloc (.map #[] 0)).alloc (.cells row 137) → Low w.heap.size w w1 ∧ w1.heap[bm]? = some (.map #[] 0) ∧ w1.heap[am]? = some (.map #[] 0) ∧ w1.heap[c]? = some (.cells row 137 (0, 0)) := by
  rintro w1 rfl
  subst ha hc
  obtain ⟨_, a, b, c, d⟩ := three_allocs (.map #[] 0) (.map #[] 0) (.cells row 137) hb
  exact ⟨hb ▸ d, a, b, c⟩
set_option maxRecDepth 100000 in
set_option maxHeartbeats 16000000 in
theorem function_halt (w : World) (gf nf cf ga na ca e k : Nat) (hh : Int) (g cg : Nat) (h : HaltAt w g) (hF : w.cell? ⟨gf, k, none⟩ = some (.slice (some ⟨g, 0, none⟩) 1 cg)) (hA : w.cell? ⟨ga, k, none⟩ = some (.int .i64 0)) (hk : k < nf) (hka : k < na) (hnf : nf ≤ 4) (hna : na ≤ 4) :
    Calls Tryz.prog 69 #[.agg #[.slice (some ⟨gf, 0, none⟩) nf cf, .slice (some ⟨ga, 0, none⟩) na ca, .int .i64 e, .int .i64 hh, .slice none 0 0, .slice none 0 0], .int .i64 k] w (fun r w' => Low w.heap.size w w' ∧ r = .returned (.bool true)) := by
  have hm53 : ∀ u : World, (Instr.makeMap 53 none).run Tryz.prog u = .ok (.map (some u.heap.size)) (u.alloc (.map #[] 0)) := fun u => by kernel_rfl
  have l1 : Low w.heap.size w (w.alloc (.cells #[.slice (some ⟨gf, 0, none⟩) nf cf, .slice (some ⟨ga, 0, none⟩) na ca, .int .i64 e, .int .i64 hh, .slice none 0 0, .slice none 0 0] 58)) := (Low.refl _ w).alloc (Nat.le_refl _) _
  have a1 := heap_new w (.cells #[.slice (some ⟨gf, 0, none⟩) nf cf, .slice (some ⟨ga, 0, none⟩) na ca, .int .i64 e, .int .i64 hh, .slice none 0 0, .slice none 0 0] 58)
  have f1 := cell_low hF l1; have e1 := cell_low hA l1
  have H := Lib.hid h
  have hk0 : (0 : Int) ≤ (k : Int) := by omega
  have hk1 : (k : Int) < (nf : Int) := by omega
  have hk2 : (k : Int) < (na : Int) := by omega
  have hk3 : (k : Int) ≤ 4 := by omega
  clear h hF hA
  go_enter Tryz.func69, Tryz.ntmps69
  go_upto_region 1 with fail
  obtain ⟨t2, ht2⟩ : ∃ t, t = w.heap.size := ⟨_, rfl⟩
  rw [← ht2] at a1 ⊢
  have HT2 := Lib.hid ht2
  clear ht2
  generalize w.alloc (.cells #[.slice (some ⟨gf, 0, none⟩) nf cf, .slice (some ⟨ga, 0, none⟩) na ca, .int .i64 e, .int .i64 hh, .slice none 0 0, .slice none 0 0] 58) = w1 at a1 l1 f1 e1 ⊢
  have y0 : w1.cell? ⟨t2, 0, none⟩ = some (.slice (some ⟨gf, 0, none⟩) nf cf) := cell_of a1
  have l2 : Low w1.heap.size w1 (w1.alloc (.cells #[.slice (some ⟨g, 0, none⟩) 1 cg] 39)) := (Low.refl _ w1).alloc (Nat.le_refl _) _
  have a2 := heap_new w1 (.cells #[.slice (some ⟨g, 0, none⟩) 1 cg] 39)
  have L2 := Lib.hid (l1.trans (l2.mono l1.size)); have B2 := Lib.hid (l2.some a1); have E2 := Lib.hid (cell_low e1 l2); have hs1 := l1.size
  clear l1 l2 a1 e1
  go_upto_region 2 with fail
  obtain ⟨t5, ht5⟩ : ∃ t, t = w1.heap.size := ⟨_, rfl⟩
  rw [← ht5] at a2 hs1 ⊢
  clear ht5
  generalize w1.alloc (.cells #[.slice (some ⟨g, 0, none⟩) 1 cg] 39) = w2 at a2 L2 B2 E2 ⊢
  clear y0 f1
  have HS5 := Lib.hid hs1
  clear hs1
  have z0 : w2.cell? ⟨t2, 0, none⟩ = some (.slice (some ⟨gf, 0, none⟩) nf cf) := cell_of B2.out
  have z1 : w2.cell? ⟨t2, 1, none⟩ = some (.slice (some ⟨ga, 0, none⟩) na ca) := cell_of B2.out
  have z2 : w2.cell? ⟨t2, 2, none⟩ = some (.int .i64 e) := cell_of B2.out
  have z3 : w2.cell? ⟨t2, 3, none⟩ = some (.int .i64 hh) := cell_of B2.out
  have z4 : w2.cell? ⟨t2, 4, none⟩ = some (.slice none 0 0) := cell_of B2.out
  have z5 : w2.cell? ⟨t2, 5, none⟩ = some (.slice none 0 0) := cell_of B2.out
  have x5 : w2.cell? ⟨t5, 0, none⟩ = some (.slice (some ⟨g, 0, none⟩) 1 cg) := cell_of a2
  have A2 := Lib.hid a2
  obtain ⟨bm, hbm⟩ : ∃ Q, w2.heap.size = Q := ⟨_, rfl⟩
  clear a2
  go_upto_region 5 with fail
  obtain ⟨am, ham⟩ : ∃ t, t = bm + 1 := ⟨_, rfl⟩
  obtain ⟨c, hc⟩ : ∃ t, t = bm + 1 + 1 := ⟨_, rfl⟩
  rw [← hc, ← ham]
  have hv := chk_vars #[.slice (some ⟨gf, 0, none⟩) nf cf, .slice (some ⟨ga, 0, none⟩) na ca, .int .i64 e, .int .i64 hh, .slice none 0 0, .slice none 0 0, .slice (some ⟨g, 0, none⟩) 1 cg, .map (some bm), .map (some am), .slice none 0 0] hbm ham hc _ rfl
  have HB := Lib.hid hbm
  have hbam : bm ≠ am := by omega
  have HC3 := Lib.hid (And.intro ham hc)
  clear hm53 z0 z1 z2 z3 z4 z5 x5 hbm ham hc
  generalize ((w2.alloc (.map #[] 0)).alloc (.map #[] 0)).alloc (.cells #[.slice (some ⟨gf, 0, none⟩) nf cf, .slice (some ⟨ga, 0, none⟩) na ca, .int .i64 e, .int .i64 hh, .slice none 0 0, .slice none 0 0, .slice (some ⟨g, 0, none⟩) 1 cg, .map (some bm), .map (some am), .slice none 0 0] 137) = w5 at hv ⊢
  obtain ⟨l5, hb5, ha5, hc5⟩ := hv
  have H5 := Lib.hid (H.out.low (L2.out.trans (l5.mono L2.out.size))); have B5 := Lib.hid (l5.some B2.out); have A5 := Lib.hid (l5.some A2.out); have E5 := Lib.hid (cell_low E2.out l5)
  have L5 := Lib.hid (L2.out.trans (l5.mono L2.out.size))
  have HBW : Hid (w.heap.size ≤ bm ∧ w.heap.size ≤ am ∧ w.heap.size ≤ c) := Lib.hid (by have := L2.out.size; have := HB.out; have := HC3.out; omega)
  have p0 : w5.cell? ⟨g, 0, none⟩ = some (.slice none 0 0) := cell_of H5.out
  have hS5 : w5.cell? ⟨t5, 0, none⟩ = some (.slice (some ⟨g, 0, none⟩) 1 cg) ∧ w5.cell? ⟨g, 0, none⟩ = some (.slice none 0 0) ∧ w5.cell? ⟨t2, 1, none⟩ = some (.slice (some ⟨ga, 0, none⟩) na ca) ∧ w5.cell? ⟨ga, k, none⟩ = some (.int .i64 0) := ⟨cell_of A5.out, p0, cell_of B5.out, E5.out⟩
  have C5 := Lib.hid hc5; have M5 := Lib.hid (And.intro hb5 ha5)
  have L25 := Lib.hid l5
  clear l5 hb5 ha5 hc5 p0
  have hsh : Calls Tryz.prog 98 #[.pointer (some ⟨c, 0, none⟩)] w5.drew (fun r w' => ∃ v, r = .returned v ∧ (v = .bool true ∧ Low w5.heap.size w5 w')) :=
    (shapes_halt w5.drew c g cg (cell_of C5.out) (H5.out.low (Low.refl _ w5).drew)).mono (fun r w' ⟨a, b⟩ => ⟨_, b, rfl, (Low.refl _ w5).drew.trans a⟩)
  go_cut [43] (fun v43 wx => v43 = .bool false ∧ Low w5.heap.size w5 wx)
  case first =>
    refine wp_region_noPanic ?_
    refine wp_region_held_drew (S := fun w' => w'.cell? ⟨t5, 0, none⟩ = some (.slice (some ⟨g, 0, none⟩) 1 cg) ∧ w'.cell? ⟨g, 0, none⟩ = some (.slice none 0 0) ∧ w'.cell? ⟨t2, 1, none⟩ = some (.slice (some ⟨ga, 0, none⟩) na ca) ∧ w'.cell? ⟨ga, k, none⟩ = some (.int .i64 0)) (by kernel_rfl) (by exact hS5) (fun hHeld => ?_)
    refine take_at (i := 0) (v := ?_) rfl (by kernel_rfl) (by kernel_rfl) (by kernel_rfl) (fun _ _ _ h => h) (by rfl) ?_ (by assumption) ?_
    rotate_left
    · intro w' hSw; obtain ⟨s0, s1, s2, s3⟩ := hSw; go_simp; (try with_reducible rfl)
    (try simp only [Act.put, List.setIfInBounds_toArray, List.set_cons_zero, List.set_cons_succ])
    refine take_at (i := 1) (v := ?_) rfl (by kernel_rfl) (by kernel_rfl) (by kernel_rfl) (fun _ _ _ h => h) (by rfl) ?_ (by assumption) ?_
    rotate_left
    · intro w' hSw; obtain ⟨s0, s1, s2, s3⟩ := hSw; go_simp; (try with_reducible rfl)
    (try simp only [Act.put, List.setIfInBounds_toArray, List.set_cons_zero, List.set_cons_succ])
    refine take_at (i := 2) (v := ?_) rfl (by kernel_rfl) (by kernel_rfl) (by kernel_rfl) (fun _ _ _ h => h) (by rfl) ?_ (by assumption) ?_
    rotate_left
    · intro w' hSw; obtain ⟨s0, s1, s2, s3⟩ := hSw; go_simp; (try with_reducible rfl)
    (try simp only [Act.put, List.setIfInBounds_toArray, List.set_cons_zero, List.set_cons_succ])
    refine take_at (i := 3) (v := ?_) rfl (by kernel_rfl) (by kernel_rfl) (by kernel_rfl) (fun _ _ _ h => h) (by rfl) ?_ (by assumption) ?_
    rotate_left
    · intro w' hSw; obtain ⟨s0, s1, s2, s3⟩ := hSw; go_simp; (try with_reducible rfl)
    (try simp only [Act.put, List.setIfInBounds_toArray, List.set_cons_zero, List.set_cons_succ])
    refine take_at (i := 4) (v := ?_) rfl (by kernel_rfl) (by kernel_rfl) (by kernel_rfl) (fun _ _ _ h => h) (by rfl) ?_ (by assumption) ?_
    rotate_left
    · intro w' hSw; obtain ⟨s0, s1, s2, s3⟩ := hSw; go_simp; (try with_reducible rfl)
    (try simp only [Act.put, List.setIfInBounds_toArray, List.set_cons_zero, List.set_cons_succ])
    refine take_at (i := 5) (v := ?_) rfl (by kernel_rfl) (by kernel_rfl) (by kernel_rfl) (fun _ _ _ h => h) (by rfl) ?_ (by assumption) ?_
    rotate_left
    · intro w' hSw; obtain ⟨s0, s1, s2, s3⟩ := hSw; go_simp; (try with_reducible rfl)
    (try simp only [Act.put, List.setIfInBounds_toArray, List.set_cons_zero, List.set_cons_succ])
    refine take_at (i := 6) (v := ?_) rfl (by kernel_rfl) (by kernel_rfl) (by kernel_rfl) (fun _ _ _ h => h) (by rfl) ?_ (by assumption) ?_
    rotate_left
    · intro w' hSw; obtain ⟨s0, s1, s2, s3⟩ := hSw; go_simp; (try with_reducible rfl)
    (try simp only [Act.put, List.setIfInBounds_toArray, List.set_cons_zero, List.set_cons_succ])
    refine take_at (i := 7) (v := ?_) rfl (by kernel_rfl) (by kernel_rfl) (by kernel_rfl) (fun _ _ _ h => h) (by rfl) ?_ (by assumption) ?_
    rotate_left
    · intro w' hSw; obtain ⟨s0, s1, s2, s3⟩ := hSw; go_simp; (try with_reducible rfl)
    (try simp only [Act.put, List.setIfInBounds_toArray, List.set_cons_zero, List.set_cons_succ])
    refine take_at (i := 8) (v := ?_) rfl (by kernel_rfl) (by kernel_rfl) (by kernel_rfl) (fun _ _ _ h => h) (by rfl) ?_ (by assumption) ?_
    rotate_left
    · intro w' hSw; obtain ⟨s0, s1, s2, s3⟩ := hSw; go_simp; (try with_reducible rfl)
    (try simp only [Act.put, List.setIfInBounds_toArray, List.set_cons_zero, List.set_cons_succ])
    refine take_at (i := 9) (v := ?_) rfl (by kernel_rfl) (by kernel_rfl) (by kernel_rfl) (fun _ _ _ h => h) (by rfl) ?_ (by assumption) ?_
    rotate_left
    · intro w' hSw; obtain ⟨s0, s1, s2, s3⟩ := hSw; go_simp; (try with_reducible rfl)
    (try simp only [Act.put, List.setIfInBounds_toArray, List.set_cons_zero, List.set_cons_succ])
    refine take_at (i := 10) (v := ?_) rfl (by kernel_rfl) (by kernel_rfl) (by kernel_rfl) (fun _ _ _ h => h) (by rfl) ?_ (by assumption) ?_
    rotate_left
    · intro w' hSw; obtain ⟨s0, s1, s2, s3⟩ := hSw; go_simp; (try with_reducible rfl)
    (try simp only [Act.put, List.setIfInBounds_toArray, List.set_cons_zero, List.set_cons_succ])
    refine take_at (i := 11) (v := ?_) rfl (by kernel_rfl) (by kernel_rfl) (by kernel_rfl) (fun _ _ _ h => h) (by rfl) ?_ (by assumption) ?_
    rotate_left
    · intro w' hSw; obtain ⟨s0, s1, s2, s3⟩ := hSw; go_simp; (try with_reducible rfl)
    (try simp only [Act.put, List.setIfInBounds_toArray, List.set_cons_zero, List.set_cons_succ])
    refine take_at (i := 12) (v := ?_) rfl (by kernel_rfl) (by kernel_rfl) (by kernel_rfl) (fun _ _ _ h => h) (by rfl) ?_ (by assumption) ?_
    rotate_left
    · intro w' hSw; obtain ⟨s0, s1, s2, s3⟩ := hSw; go_simp; (try with_reducible rfl)
    (try simp only [Act.put, List.setIfInBounds_toArray, List.set_cons_zero, List.set_cons_succ])
    refine take_at (i := 13) (v := ?_) rfl (by kernel_rfl) (by kernel_rfl) (by kernel_rfl) (fun _ _ _ h => h) (by rfl) ?_ (by assumption) ?_
    rotate_left
    · intro w' hSw; obtain ⟨s0, s1, s2, s3⟩ := hSw; go_simp; (try with_reducible rfl)
    (try simp only [Act.put, List.setIfInBounds_toArray, List.set_cons_zero, List.set_cons_succ])
    refine wpAnyH_ready (rs := [14]) (by kernel_rfl) (by simp) ?_
    refine next_at (i := 14) rfl (fun KK hKK => ?_) AllReadyH.nil
    refine step_call_g (by rfl) 98 #[.pointer (some ⟨c, 0, none⟩)] (by go_simp) _ hsh ?_
    rintro v w6 ⟨rfl, ls⟩
    have hS6 : w6.cell? ⟨t5, 0, none⟩ = some (.slice (some ⟨g, 0, none⟩) 1 cg) ∧ w6.cell? ⟨g, 0, none⟩ = some (.slice none 0 0) ∧ w6.cell? ⟨t2, 1, none⟩ = some (.slice (some ⟨ga, 0, none⟩) na ca) ∧ w6.cell? ⟨ga, k, none⟩ = some (.int .i64 0) := ⟨cell_low hS5.1 ls, cell_low hS5.2.1 ls, cell_low hS5.2.2.1 ls, cell_low hS5.2.2.2 ls⟩
    have LS := Lib.hid ls
    clear ls hsh
    refine hKK.out _ _ (by exact hS6) (fun hHeld => ?_)
    clear hKK KK
    (try simp only [Act.put, List.setIfInBounds_toArray, List.set_cons_zero, List.set_cons_succ])
    refine take_at (i := 15) (v := ?_) rfl (by kernel_rfl) (by kernel_rfl) (by kernel_rfl) (fun _ _ _ h => h) (by rfl) ?_ (by assumption) ?_
    rotate_left
    · intro w' hSw; obtain ⟨s0, s1, s2, s3⟩ := hSw; go_simp; (try with_reducible rfl)
    (try simp only [Act.put, List.setIfInBounds_toArray, List.set_cons_zero, List.set_cons_succ])
    refine take_at (i := 16) (v := ?_) rfl (by kernel_rfl) (by kernel_rfl) (by kernel_rfl) (fun _ _ _ h => h) (by rfl) ?_ (by assumption) ?_
    rotate_left
    · intro w' hSw; obtain ⟨s0, s1, s2, s3⟩ := hSw; go_simp; (try with_reducible rfl)
    (try simp only [Act.put, List.setIfInBounds_toArray, List.set_cons_zero, List.set_cons_succ])
    refine wpAnyH_done (by kernel_rfl) ?_ _
    refine NoPanic.normal ?_
    (try go_wp2_with fail)
    go_meet
    exact ⟨rfl, LS.out⟩
  case rest =>
    clear hsh hS5
    obtain ⟨rfl, ls⟩ := hcut
    obtain ⟨w6, rfl⟩ : ∃ u, u = wc := ⟨_, rfl⟩
    have H6 := Lib.hid (H5.out.low ls); have A6 := Lib.hid (ls.some A5.out); have B6 := Lib.hid (ls.some B5.out); have C6 := Lib.hid (ls.some C5.out)
    have L6 := Lib.hid (L5.out.trans (ls.mono L5.out.size))
    clear ls
    have hgr := graph_halt w6 g cg H6.out
    have y5 : w6.cell? ⟨t5, 0, none⟩ = some (.slice (some ⟨g, 0, none⟩) 1 cg) := cell_of A6.out
    go_upto_region 8 with (first
      | (go_at_call 99; with_reducible refine hgr.mono ?_; rintro e w7 ⟨l7, r, rfl, hr7⟩))
    have l8 : Low w7.heap.size w7 (w7.alloc (.cells #[.slice (some ⟨r, 0, none⟩) 1 1] 140)) := (Low.refl _ _).alloc (Nat.le_refl _) _
    have a8 := heap_new w7 (.cells #[.slice (some ⟨r, 0, none⟩) 1 1] 140)
    have r8 := l8.some hr7
    have l68 := Low.trans l7 (Low.mono l8 l7.size)
    obtain ⟨t7, ht7⟩ : ∃ t, t = w7.heap.size := ⟨_, rfl⟩
    rw [← ht7] at a8 ⊢
    clear ht7
    generalize w7.alloc (.cells #[.slice (some ⟨r, 0, none⟩) 1 1] 140) = w8 at a8 l8 r8 l68 ⊢
    have H8 := Lib.hid (H6.out.low l68); have A8 := Lib.hid (l68.some A6.out); have B8 := Lib.hid (l68.some B6.out); have C8 := Lib.hid (l68.some C6.out); have L8 := Lib.hid (L6.out.trans (l68.mono L6.out.size))
    have T8 := Lib.hid a8; have RR8 := Lib.hid r8
    clear l7 hr7 l8 a8 r8 l68 hgr y5
    have y7 : w8.cell? ⟨t7, 0, none⟩ = some (.slice (some ⟨r, 0, none⟩) 1 1) := cell_of T8.out
    have hdm := dominators_any w8 r RR8.out
    go_upto_region 9 with (first
      | (go_at_call 100; with_reducible refine hdm.mono ?_; rintro e w9 ⟨l9, gd, rfl⟩; have x9 : w9.cell? ⟨c, 9, none⟩ = some (.slice none 0 0) := cell_of (Low.some l9 C8.out); have f9 : w9.frozen? ⟨c, 9, none⟩ = false := free_of (Low.some l9 C8.out)))
    have H9 := Lib.hid (H8.out.low l9); have A9 := Lib.hid (Low.some l9 A8.out); have B9 := Lib.hid (Low.some l9 B8.out); have C9 := Lib.hid (Low.some l9 C8.out); have L9 := Lib.hid (L8.out.trans (Low.mono l9 L8.out.size))
    have T9 := Lib.hid (Low.some l9 T8.out); have RR9 := Lib.hid (Low.some l9 RR8.out)
    clear l9 hdm y7 x9 f9
    have A10 := Lib.hid (at_other (i := 9) (v := .slice (some ⟨gd, 0, none⟩) 1 1) A9.out C9.out (by intro cs hq; cases hq))
    have T10 := Lib.hid (at_other (i := 9) (v := .slice (some ⟨gd, 0, none⟩) 1 1) T9.out C9.out (by intro cs hq; cases hq))
    have RR10 := Lib.hid (at_other (i := 9) (v := .slice (some ⟨gd, 0, none⟩) 1 1) RR9.out C9.out (by intro cs hq; cases hq))
    have C10 := Lib.hid (set_blk (i := 9) (v := .slice (some ⟨gd, 0, none⟩) 1 1) C9.out)
    have L10 := Lib.hid (L9.out.setCell (g := c) (i := 9) HBW.out.2.2 (.slice (some ⟨gd, 0, none⟩) 1 1))
    have hch := Chs.setCell (B := [c]) w9 (d := c) (i := 9) (List.mem_singleton.2 rfl) (.slice (some ⟨gd, 0, none⟩) 1 1)
    have H10 := Lib.hid (show HaltAt (w9.setCell ⟨c, 9, none⟩ (.slice (some ⟨gd, 0, none⟩) 1 1)) g from hch.obj H9.out (by intro hm; rw [List.mem_singleton] at hm; subst hm; have h1 := H9.out; unfold HaltAt at h1; rw [C9.out] at h1; cases h1))
    clear hch
    generalize w9.setCell ⟨c, 9, none⟩ (.slice (some ⟨gd, 0, none⟩) 1 1) = w10 at A10 T10 RR10 C10 L10 H10 ⊢
    have hS10 : w10.cell? ⟨t7, 0, none⟩ = some (.slice (some ⟨r, 0, none⟩) 1 1) ∧ w10.cell? ⟨t5, 0, none⟩ = some (.slice (some ⟨g, 0, none⟩) 1 cg) := ⟨cell_of T10.out, cell_of A10.out⟩
    have hor : Calls Tryz.prog 101 #[.agg #[.slice (some ⟨r, 0, none⟩) 1 1]] w10.drew (fun e w' => ∃ v, e = .returned v ∧ (Low w10.heap.size w10 w' ∧ ∃ gp c, v = .slice (some ⟨gp, 0, none⟩) 1 c)) :=
      (order_any w10.drew r RR10.out).mono (fun e w' ⟨a, gp, c, cs, he, _⟩ => ⟨_, he, (Low.refl _ w10).drew.trans a, gp, c, rfl⟩)
    go_cut [57] (fun v57 wx => v57 = .bool false ∧ Low w10.heap.size w10 wx)
    case first =>
      refine wp_region_noPanic ?_
      refine wp_region_held_drew (S := fun w' => w'.cell? ⟨t7, 0, none⟩ = some (.slice (some ⟨r, 0, none⟩) 1 1) ∧ w'.cell? ⟨t5, 0, none⟩ = some (.slice (some ⟨g, 0, none⟩) 1 cg)) (by kernel_rfl) (by exact hS10) (fun hHeld => ?_)
      refine take_at (i := 0) (v := ?_) rfl (by kernel_rfl) (by kernel_rfl) (by kernel_rfl) (fun _ _ _ h => h) (by rfl) ?_ (by assumption) ?_
      rotate_left
      · intro w' hSw; obtain ⟨s0, s1⟩ := hSw; go_simp; (try with_reducible rfl)
      (try simp only [Act.put, List.setIfInBounds_toArray, List.set_cons_zero, List.set_cons_succ])
      refine take_at (i := 3) (v := ?_) rfl (by kernel_rfl) (by kernel_rfl) (by kernel_rfl) (fun _ _ _ h => h) (by rfl) ?_ (by assumption) ?_
      rotate_left
      · intro w' hSw; obtain ⟨s0, s1⟩ := hSw; go_simp; (try with_reducible rfl)
      (try simp only [Act.put, List.setIfInBounds_toArray, List.set_cons_zero, List.set_cons_succ])
      refine take_at (i := 4) (v := ?_) rfl (by kernel_rfl) (by kernel_rfl) (by kernel_rfl) (fun _ _ _ h => h) (by rfl) ?_ (by assumption) ?_
      rotate_left
      · intro w' hSw; obtain ⟨s0, s1⟩ := hSw; go_simp; (try with_reducible rfl)
      (try simp only [Act.put, List.setIfInBounds_toArray, List.set_cons_zero, List.set_cons_succ])
      refine take_at (i := 5) (v := ?_) rfl (by kernel_rfl) (by kernel_rfl) (by kernel_rfl) (fun _ _ _ h => h) (by rfl) ?_ (by assumption) ?_
      rotate_left
      · intro w' hSw; obtain ⟨s0, s1⟩ := hSw; go_simp; (try with_reducible rfl)
      (try simp only [Act.put, List.setIfInBounds_toArray, List.set_cons_zero, List.set_cons_succ])
      refine wpAnyH_ready (rs := [1]) (by kernel_rfl) (by simp) ?_
      refine next_at (i := 1) rfl (fun KK hKK => ?_) AllReadyH.nil
      refine step_call rfl 101 #[.agg #[.slice (some ⟨r, 0, none⟩) 1 1]] (by go_simp) _ hor ?_
      rintro v w11 ⟨l11, gp, c', rfl⟩
      have hS11 : w11.cell? ⟨t7, 0, none⟩ = some (.slice (some ⟨r, 0, none⟩) 1 1) ∧ w11.cell? ⟨t5, 0, none⟩ = some (.slice (some ⟨g, 0, none⟩) 1 cg) := ⟨cell_low hS10.1 l11, cell_low hS10.2 l11⟩
      have L11 := Lib.hid l11
      clear l11 hor
      refine hKK.out _ _ (by exact hS11) (fun hHeld => ?_)
      clear hKK KK
      (try simp only [Act.put, List.setIfInBounds_toArray, List.set_cons_zero, List.set_cons_succ])
      refine take_at (i := 2) (v := ?_) rfl (by kernel_rfl) (by kernel_rfl) (by kernel_rfl) (fun _ _ _ h => h) (by rfl) ?_ (by assumption) ?_
      rotate_left
      · intro w' hSw; obtain ⟨s0, s1⟩ := hSw; go_simp; (try with_reducible rfl)
      (try simp only [Act.put, List.setIfInBounds_toArray, List.set_cons_zero, List.set_cons_succ])
      refine take_at (i := 6) (v := ?_) rfl (by kernel_rfl) (by kernel_rfl) (by kernel_rfl) (fun _ _ _ h => h) (by rfl) ?_ (by assumption) ?_
      rotate_left
      · intro w' hSw; obtain ⟨s0, s1⟩ := hSw; go_simp; (try with_reducible rfl)
      (try simp only [Act.put, List.setIfInBounds_toArray, List.set_cons_zero, List.set_cons_succ])
      refine wpAnyH_done (by kernel_rfl) ?_ _
      refine NoPanic.normal ?_
      (try go_wp2_with fail)
      go_meet
      exact ⟨rfl, L11.out⟩
    case rest =>
      clear hor hS10
      obtain ⟨rfl, l11⟩ := hcut
      obtain ⟨w11, rfl⟩ : ∃ u, u = wc := ⟨_, rfl⟩
      have H11 := Lib.hid (H10.out.low l11); have A11 := Lib.hid (l11.some A10.out); have C11 := Lib.hid (l11.some C10.out); have L11 := Lib.hid (L10.out.trans (l11.mono L10.out.size))
      clear l11
      have y5 : w11.cell? ⟨t5, 0, none⟩ = some (.slice (some ⟨g, 0, none⟩) 1 cg) := cell_of A11.out
      go_wp2_with fail
      go_loopw [61] (fun i wr => (i = .int .i64 0 ∧ wr = w11) ∨ (i = .int .i64 1 ∧ Low w11.heap.size w11 wr)) (fun i _ => 1 - (intOf i).toNat)
      case atStart => exact .inl ⟨rfl, rfl⟩
      case round =>
        rcases hrel with ⟨rfl, rfl⟩ | ⟨rfl, hL⟩
        · obtain ⟨w11, rfl⟩ : ∃ u, u = wr := ⟨_, rfl⟩
          have r0 := H11.out
          unfold HaltAt at r0
          have p0 : w11.cell? ⟨g, 0, none⟩ = some (.slice none 0 0) := cell_of r0
          have p1 : w11.cell? ⟨g, 1, none⟩ = some (.slice none 0 0) := cell_of r0
          have p2 : w11.cell? ⟨g, 2, none⟩ = some (.int .i64 5) := cell_of r0
          have p3 : w11.cell? ⟨g, 3, none⟩ = some (.int .i64 0) := cell_of r0
          have p4 : w11.cell? ⟨g, 4, none⟩ = some (.slice none 0 0) := cell_of r0
          clear r0
          have l12 : Low w11.heap.size w11 (w11.alloc (.cells #[.slice none 0 0, .slice none 0 0, .int .i64 5, .int .i64 0, .slice none 0 0] 29)) := (Low.refl _ _).alloc (Nat.le_refl _) _
          have a12 := heap_new w11 (.cells #[.slice none 0 0, .slice none 0 0, .int .i64 5, .int .i64 0, .slice none 0 0] 29)
          have L12 := Lib.hid l12
          go_upto_region 14 with fail
          clear p0 p1 p2 p3 p4 y5
          obtain ⟨t9, ht9⟩ : ∃ t, t = w11.heap.size := ⟨_, rfl⟩
          rw [← ht9] at a12 ⊢
          clear ht9
          generalize w11.alloc (.cells #[.slice none 0 0, .slice none 0 0, .int .i64 5, .int .i64 0, .slice none 0 0] 29) = w12 at a12 L12 l12 ⊢
          have N12 := Lib.hid a12
          have y1 : w12.cell? ⟨t9, 1, none⟩ = some (.slice none 0 0) := cell_of a12
          clear l12 a12
          go_wp2_with fail
          go_loopw [69] (fun i wr => i = .int .i64 0 ∧ wr = w12) (fun _ _ => 0)
          case atStart => exact ⟨rfl, rfl⟩
          case round =>
            obtain ⟨rfl, rfl⟩ := hrel
            obtain ⟨wv, rfl⟩ : ∃ u, u = wr := ⟨_, rfl⟩
            have LV := Lib.hid (Low.refl wv.heap.size wv)
            have hav := N12.out
            have hS20 : wv.cell? ⟨t9, 1, none⟩ = some (.slice none 0 0) ∧ wv.cell? ⟨t9, 2, none⟩ = some (.int .i64 5) ∧ wv.cell? ⟨t9, 3, none⟩ = some (.int .i64 0) ∧ wv.cell? ⟨t9, 4, none⟩ = some (.slice none 0 0) := ⟨cell_of hav, cell_of hav, cell_of hav, cell_of hav⟩
            have hen : Calls Tryz.prog 104 #[.agg #[.int .i64 5, .int .i64 0, .slice none 0 0]] wv.drew (fun e w' => ∃ v, e = .returned v ∧ (v = .slice none 0 0 ∧ Low wv.heap.size wv w')) :=
              (ends_any wv.drew 5 0 none 0 (.inr ⟨rfl, rfl⟩)).mono (fun e w' ⟨a, b⟩ => ⟨_, b, rfl, (Low.refl _ wv).drew.trans a⟩)
            clear hav y1
            go_upto_region 20 with fail
            go_cut [91] (fun v91 wx => v91 = .bool false ∧ Low wv.heap.size wv wx)
            case first =>
              refine wp_region_noPanic ?_
              refine wp_region_held_drew (S := fun w' => w'.cell? ⟨t9, 1, none⟩ = some (.slice none 0 0) ∧ w'.cell? ⟨t9, 2, none⟩ = some (.int .i64 5) ∧ w'.cell? ⟨t9, 3, none⟩ = some (.int .i64 0) ∧ w'.cell? ⟨t9, 4, none⟩ = some (.slice none 0 0)) (by kernel_rfl) (by exact hS20) (fun hHeld => ?_)
              refine take_at (i := 0) (v := ?_) rfl (by kernel_rfl) (by kernel_rfl) (by kernel_rfl) (fun _ _ _ h => h) (by rfl) ?_ (by assumption) ?_
              rotate_left
              · intro w' hSw; obtain ⟨s0, s1, s2, s3⟩ := hSw; go_simp; (try with_reducible rfl)
              (try simp only [Act.put, List.setIfInBounds_toArray, List.set_cons_zero, List.set_cons_succ])
              refine take_at (i := 1) (v := ?_) rfl (by kernel_rfl) (by kernel_rfl) (by kernel_rfl) (fun _ _ _ h => h) (by rfl) ?_ (by assumption) ?_
              rotate_left
              · intro w' hSw; obtain ⟨s0, s1, s2, s3⟩ := hSw; go_simp; (try with_reducible rfl)
              (try simp only [Act.put, List.setIfInBounds_toArray, List.set_cons_zero, List.set_cons_succ])
              refine take_at (i := 2) (v := ?_) rfl (by kernel_rfl) (by kernel_rfl) (by kernel_rfl) (fun _ _ _ h => h) (by rfl) ?_ (by assumption) ?_
              rotate_left
              · intro w' hSw; obtain ⟨s0, s1, s2, s3⟩ := hSw; go_simp; (try with_reducible rfl)
              (try simp only [Act.put, List.setIfInBounds_toArray, List.set_cons_zero, List.set_cons_succ])
              refine take_at (i := 4) (v := ?_) rfl (by kernel_rfl) (by kernel_rfl) (by kernel_rfl) (fun _ _ _ h => h) (by rfl) ?_ (by assumption) ?_
              rotate_left
              · intro w' hSw; obtain ⟨s0, s1, s2, s3⟩ := hSw; go_simp; (try with_reducible rfl)
              (try simp only [Act.put, List.setIfInBounds_toArray, List.set_cons_zero, List.set_cons_succ])
              refine take_at (i := 5) (v := ?_) rfl (by kernel_rfl) (by kernel_rfl) (by kernel_rfl) (fun _ _ _ h => h) (by rfl) ?_ (by assumption) ?_
              rotate_left
              · intro w' hSw; obtain ⟨s0, s1, s2, s3⟩ := hSw; go_simp; (try with_reducible rfl)
              (try simp only [Act.put, List.setIfInBounds_toArray, List.set_cons_zero, List.set_cons_succ])
              refine take_at (i := 6) (v := ?_) rfl (by kernel_rfl) (by kernel_rfl) (by kernel_rfl) (fun _ _ _ h => h) (by rfl) ?_ (by assumption) ?_
              rotate_left
              · intro w' hSw; obtain ⟨s0, s1, s2, s3⟩ := hSw; go_simp; (try with_reducible rfl)
              (try simp only [Act.put, List.setIfInBounds_toArray, List.set_cons_zero, List.set_cons_succ])
              refine take_at (i := 7) (v := ?_) rfl (by kernel_rfl) (by kernel_rfl) (by kernel_rfl) (fun _ _ _ h => h) (by rfl) ?_ (by assumption) ?_
              rotate_left
              · intro w' hSw; obtain ⟨s0, s1, s2, s3⟩ := hSw; go_simp; (try with_reducible rfl)
              (try simp only [Act.put, List.setIfInBounds_toArray, List.set_cons_zero, List.set_cons_succ])
              refine wpAnyH_ready (rs := [3]) (by kernel_rfl) (by simp) ?_
              refine next_at (i := 3) rfl (fun KK hKK => ?_) AllReadyH.nil
              refine step_call rfl 104 #[.agg #[.int .i64 5, .int .i64 0, .slice none 0 0]] (by go_simp) _ hen ?_
              rintro v wq ⟨rfl, lq⟩
              have hSq : wq.cell? ⟨t9, 1, none⟩ = some (.slice none 0 0) ∧ wq.cell? ⟨t9, 2, none⟩ = some (.int .i64 5) ∧ wq.cell? ⟨t9, 3, none⟩ = some (.int .i64 0) ∧ wq.cell? ⟨t9, 4, none⟩ = some (.slice none 0 0) := ⟨cell_low hS20.1 lq, cell_low hS20.2.1 lq, cell_low hS20.2.2.1 lq, cell_low hS20.2.2.2 lq⟩
              have LQ := Lib.hid lq
              have hdn : Calls Tryz.prog 102 #[.pointer (some ⟨c, 0, none⟩), .slice none 0 0, .int .i64 0, .int .i64 0] wq (fun e w' => ∃ v, e = .returned v ∧ (v = .bool true ∧ w' = wq)) :=
                (defined_nil wq (.pointer (some ⟨c, 0, none⟩)) 0 0).mono (fun e w' ⟨a, b⟩ => ⟨_, a, rfl, b⟩)
              clear lq hen
              refine hKK.out _ _ (by exact hSq) (fun hHeld => ?_)
              clear hKK KK
              (try simp only [Act.put, List.setIfInBounds_toArray, List.set_cons_zero, List.set_cons_succ])
              refine wpAnyH_ready (rs := [8]) (by kernel_rfl) (by simp) ?_
              refine next_at (i := 8) rfl (fun KK hKK => ?_) AllReadyH.nil
              refine step_call rfl 102 #[.pointer (some ⟨c, 0, none⟩), .slice none 0 0, .int .i64 0, .int .i64 0] (by go_simp) _ hdn ?_
              rintro v wz ⟨rfl, rfl⟩
              clear hdn
              refine hKK.out _ _ (by exact hSq) (fun hHeld => ?_)
              clear hKK KK
              (try simp only [Act.put, List.setIfInBounds_toArray, List.set_cons_zero, List.set_cons_succ])
              refine take_at (i := 9) (v := ?_) rfl (by kernel_rfl) (by kernel_rfl) (by kernel_rfl) (fun _ _ _ h => h) (by rfl) ?_ (by assumption) ?_
              rotate_left
              · intro w' hSw; obtain ⟨s0, s1, s2, s3⟩ := hSw; go_simp; (try with_reducible rfl)
              (try simp only [Act.put, List.setIfInBounds_toArray, List.set_cons_zero, List.set_cons_succ])
              refine wpAnyH_done (by kernel_rfl) ?_ _
              refine NoPanic.normal ?_
              (try go_wp2_with fail)
              go_meet
              exact ⟨rfl, LQ.out⟩
            case rest =>
              clear hen hS20
              obtain ⟨rfl, l20⟩ := hcut
              obtain ⟨wz, rfl⟩ : ∃ u, u = wc := ⟨_, rfl⟩
              have HF := Lib.hid (L12.out.trans ((LV.out.trans (l20.mono LV.out.size)).mono L12.out.size))
              clear l20
              go_wp2_with fail
              exact ⟨.inr ⟨rfl, HF.out⟩, by decide⟩
        · have HF := Lib.hid (L11.out.trans (hL.mono L11.out.size))
          clear hL
          go_wp2_with fail
          go_ret
          exact ⟨HF.out, rfl⟩
end Go.Proofs.YtnjdegjpmbdboaaGreat
