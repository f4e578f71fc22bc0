/- The instruction reader, of one form. -/
import Derived.Test.YtjkaoejcdboaiaaGreatS6
set_option linter.unusedSimpArgs false
set_option linter.unusedVariables false
set_option linter.unusedSectionVars false
namespace Go.Proofs.YtjkaoejcdboaiaaGreat
open Go.RowKit Go.Eng
set_option linter.unusedVariables false
set_option linter.unusedSectionVars false
set_option maxRecDepth 100000

set_option maxHeartbeats 8000000 in
theorem read_short (w : World) (s : ByteArray) (n d b : Nat) (h1 : 3 ≤ s.size) (hn : s[0].toNat = n) (h5 : s[1].toNat = d) (h6 : s[2].toNat = b) (o0 : 48 ≤ n) (o1 : n ≤ 62) (hd : d < 8) :
    Calls Tryz.prog 77 #[.string s, .agg #[.int .i64 2, .int .i64 5, .int .i64 0, .int .i64 0]] w (fun e' w' => e' = .returned (insV n d 0 (extP b) 0 0 3) ∧ Low w.heap.size w w') := by
  obtain ⟨hk, hz⟩ := kind_short n (by omega) (by omega) (by omega)
  have hlt0 : 0 < s.size := by omega
  have hwn : IntKind.i64.wrap (n : Int) = n := Go.IntWalk.i64_in _ (by omega)
  obtain ⟨S, hS⟩ : ∃ S, w.heap.size = S := ⟨_, rfl⟩
  obtain ⟨a2, q2, u2⟩ := alloc_at (.cells #[.string s] 9) hS
  obtain ⟨a3, q3, u3⟩ := alloc_at (.cells #[.int .i64 2, .int .i64 5, .int .i64 0, .int .i64 0] 176) q2
  obtain ⟨a4, q4, u4⟩ := alloc_at (insC 0 0 0 0 0 0 0) q3
  have a2 := u4 _ _ (u3 _ _ a2)
  have a3 := u4 _ _ a3
  have l1 : Low w.heap.size w (((w.alloc (.cells #[.string s] 9)).alloc (.cells #[.int .i64 2, .int .i64 5, .int .i64 0, .int .i64 0] 176)).alloc (insC 0 0 0 0 0 0 0)) := (((Low.refl _ _).alloc (Nat.le_refl _) _).alloc (by simp) _).alloc (by simp; omega) _
  clear u2 u3 u4 q2 q3
  go_enter Tryz.func77, Tryz.ntmps77
  go_upto_region 1 with fail
  rw [hS] at l1
  have HSS := Lib.hid hS
  obtain ⟨t2, ht2⟩ : ∃ t, t = S := ⟨_, rfl⟩
  obtain ⟨t3, ht3⟩ : ∃ t, t = S + 1 := ⟨_, rfl⟩
  obtain ⟨t4, ht4⟩ : ∃ t, t = S + 1 + 1 := ⟨_, rfl⟩
  rw [← ht4] at a4 q4 ⊢
  rw [← ht3] at a3 ⊢
  rw [show (Value.pointer (some { block := S, off := 0 })) = Value.pointer (some { block := t2, off := 0 }) by rw [ht2]]
  rw [← ht2] at a2
  have L1h : Hid (S ≤ (((w.alloc (.cells #[.string s] 9)).alloc (.cells #[.int .i64 2, .int .i64 5, .int .i64 0, .int .i64 0] 176)).alloc (insC 0 0 0 0 0 0 0)).heap.size) := Lib.hid (by rw [q4]; omega)
  have HT4 : Hid (S ≤ t4) := Lib.hid (by omega)
  clear ht2 ht3 ht4 hS
  generalize (((w.alloc (.cells #[.string s] 9)).alloc (.cells #[.int .i64 2, .int .i64 5, .int .i64 0, .int .i64 0] 176)).alloc (insC 0 0 0 0 0 0 0)) = w1 at l1 a2 a3 a4 q4 L1h ⊢
  have HX : Hid (∀ w', Low w1.heap.size w1 w' → w'.cell? ⟨t2, 0, none⟩ = some (.string s)) := Lib.hid fun w' l => l.cell (cell_of a2)
  have L1 := Lib.hid l1
  have A2 := Lib.hid a2; have A3 := Lib.hid a3; have A4 := Lib.hid a4; have Q4 := Lib.hid q4
  clear l1 a2 a3 a4 q4
  have ld : Low w1.heap.size w1 w1.drew := (Low.refl _ _).drew
  have hSd := HX.out _ ld
  have HLd := Lib.hid ld
  clear ld
  refine wp_region_noPanic ?_
  refine wp_region_held_drew (S := fun w' => w'.cell? ⟨t2, 0, none⟩ = some (.string s)) (by kernel_rfl) (by exact hSd) (fun hHeld => ?_)
  generalize w1.drew = wd at hHeld hSd HLd ⊢
  refine take_at (i := 0) (v := ?_) rfl (by kernel_rfl) (by kernel_rfl) (by kernel_rfl) (fun _ _ _ h => h) (by rfl) ?_ (by exact hHeld) ?_
  rotate_left
  · intro w' hSw; have y0 := hSw; (try dsimp only at y0); go_simp; (try with_reducible rfl)
  (try simp only [Act.put, List.setIfInBounds_toArray, List.set_cons_zero, List.set_cons_succ])
  refine take_at (i := 1) (v := ?_) rfl (by kernel_rfl) (by kernel_rfl) (by kernel_rfl) (fun _ _ _ h => h) (by rfl) ?_ (by exact hHeld) ?_
  rotate_left
  · intro w' hSw; have y0 := hSw; (try dsimp only at y0); go_simp; (try with_reducible rfl)
  (try simp only [Act.put, List.setIfInBounds_toArray, List.set_cons_zero, List.set_cons_succ])
  refine take_at (i := 2) (v := ?_) rfl (by kernel_rfl) (by kernel_rfl) (by kernel_rfl) (fun _ _ _ h => h) (by rfl) ?_ (by exact hHeld) ?_
  rotate_left
  · intro w' hSw; have y0 := hSw; (try dsimp only at y0); go_simp; (try with_reducible rfl)
  (try simp only [Act.put, List.setIfInBounds_toArray, List.set_cons_zero, List.set_cons_succ])
  refine take_at (i := 3) (v := ?_) rfl (by kernel_rfl) (by kernel_rfl) (by kernel_rfl) (fun _ _ _ h => h) (by rfl) ?_ (by exact hHeld) ?_
  rotate_left
  · intro w' hSw; have y0 := hSw; (try dsimp only at y0); go_simp; (try with_reducible rfl)
  (try simp only [Act.put, List.setIfInBounds_toArray, List.set_cons_zero, List.set_cons_succ])
  refine take_at (i := 4) (v := ?_) rfl (by kernel_rfl) (by kernel_rfl) (by kernel_rfl) (fun _ _ _ h => h) (by rfl) ?_ (by exact hHeld) ?_
  rotate_left
  · intro w' hSw; have y0 := hSw; (try dsimp only at y0); go_simp; (try with_reducible rfl)
  (try simp only [Act.put, List.setIfInBounds_toArray, List.set_cons_zero, List.set_cons_succ])
  refine wpAnyH_ready (rs := [5, 7]) (by kernel_rfl) (by simp) ?_
  refine next_at (i := 5) rfl (fun KK hKK => ?_) (next_at (i := 7) rfl (fun KK hKK => ?_) AllReadyH.nil)
  · have hsz := size_low (op := n) (by omega) wd
    rw [hz] at hsz
    refine step_call rfl 76 #[.int .u8 n] (by go_simp) (fun v w' => v = .int .i64 3 ∧ Low wd.heap.size wd w') (hsz.mono (by rintro e w' ⟨rfl, he⟩; exact ⟨_, rfl, rfl, he⟩)) ?_
    rintro v w6 ⟨rfl, l6⟩
    have L6 := Lib.hid (HLd.out.trans (l6.mono HLd.out.size))
    clear l6 hsz
    refine hKK.out _ _ (by exact (HX.out _ L6.out)) (fun hHeld => ?_)
    clear hKK KK
    (try simp only [Act.put, List.setIfInBounds_toArray, List.set_cons_zero, List.set_cons_succ])
    refine take_at (i := 6) (v := ?_) rfl (by kernel_rfl) (by kernel_rfl) (by kernel_rfl) (fun _ _ _ h => h) (by rfl) ?_ (by exact hHeld) ?_
    rotate_left
    · intro w' hSw; have y0 := hSw; (try dsimp only at y0); go_simp; (try with_reducible rfl)
    (try simp only [Act.put, List.setIfInBounds_toArray, List.set_cons_zero, List.set_cons_succ])
    refine wpAnyH_ready (rs := [7]) (by kernel_rfl) (by simp) ?_
    refine next_at (i := 7) rfl (fun KK hKK => ?_) AllReadyH.nil
    have l7 : Low w6.heap.size w6 (w6.alloc (insC 0 0 0 0 0 0 0)) := (Low.refl _ _).alloc (Nat.le_refl _) _
    have a7 := heap_new w6 (insC 0 0 0 0 0 0 0)
    go_simp
    obtain ⟨t5, ht5⟩ : ∃ t, t = w6.heap.size := ⟨_, rfl⟩
    rw [← ht5] at a7 ⊢
    have HT5 := Lib.hid ht5
    clear ht5
    generalize w6.alloc (insC 0 0 0 0 0 0 0) = w7 at l7 a7 hHeld ⊢
    have L7 := Lib.hid (L6.out.trans (l7.mono L6.out.size))
    have HB5 : Hid (w1.heap.size ≤ t5) := Lib.hid (by have := HT5.out; have := L6.out.size; omega)
    clear l7
    refine hKK.out _ _ (by exact (HX.out _ L7.out)) (fun hHeld => ?_)
    clear hKK KK
    (try simp only [Act.put, List.setIfInBounds_toArray, List.set_cons_zero, List.set_cons_succ])
    refine wpAnyH_ready (rs := [8]) (by kernel_rfl) (by simp) ?_
    refine next_at (i := 8) rfl (fun KK hKK => ?_) AllReadyH.nil
    have ck0 := cell_of (j := 0) a7
    have fk0 := free_of (j := 0) a7
    have bk0 := set_blk (i := 0) (v := .int .i64 n) a7
    have ck1 := cell_of (j := 1) bk0
    have fk1 := free_of (j := 1) bk0
    have bk1 := set_blk (i := 1) (v := .int .i64 0) bk0
    have ck2 := cell_of (j := 2) bk1
    have fk2 := free_of (j := 2) bk1
    have bk2 := set_blk (i := 2) (v := .int .i64 0) bk1
    have ck3 := cell_of (j := 3) bk2
    have fk3 := free_of (j := 3) bk2
    have bk3 := set_blk (i := 3) (v := .int .u16 0) bk2
    have ck4 := cell_of (j := 4) bk3
    have fk4 := free_of (j := 4) bk3
    have bk4 := set_blk (i := 4) (v := .int .u16 0) bk3
    have ck5 := cell_of (j := 5) bk4
    have fk5 := free_of (j := 5) bk4
    have bk5 := set_blk (i := 5) (v := .int .i64 0) bk4
    have ck6 := cell_of (j := 6) bk5
    have fk6 := free_of (j := 6) bk5
    have bk6 := set_blk (i := 6) (v := .int .i64 3) bk5
    go_simp
    have b8 : ((((((((w7.setCell ⟨t5, 0, none⟩ (.int .i64 n)).setCell ⟨t5, 1, none⟩ (.int .i64 0)).setCell ⟨t5, 2, none⟩ (.int .i64 0)).setCell ⟨t5, 3, none⟩ (.int .u16 0)).setCell ⟨t5, 4, none⟩ (.int .u16 0)).setCell ⟨t5, 5, none⟩ (.int .i64 0)).setCell ⟨t5, 6, none⟩ (.int .i64 3))).heap[t5]? = some (insC n 0 0 0 0 0 3) := by simpa using bk6
    have T8 : Turned t5 w7 ((((((((w7.setCell ⟨t5, 0, none⟩ (.int .i64 n)).setCell ⟨t5, 1, none⟩ (.int .i64 0)).setCell ⟨t5, 2, none⟩ (.int .i64 0)).setCell ⟨t5, 3, none⟩ (.int .u16 0)).setCell ⟨t5, 4, none⟩ (.int .u16 0)).setCell ⟨t5, 5, none⟩ (.int .i64 0)).setCell ⟨t5, 6, none⟩ (.int .i64 3))) := ((((((Turned.set _ _ _ _).trans (Turned.set _ _ _ _)).trans (Turned.set _ _ _ _)).trans (Turned.set _ _ _ _)).trans (Turned.set _ _ _ _)).trans (Turned.set _ _ _ _)).trans (Turned.set _ _ _ _)
    generalize (((((((w7.setCell ⟨t5, 0, none⟩ (.int .i64 n)).setCell ⟨t5, 1, none⟩ (.int .i64 0)).setCell ⟨t5, 2, none⟩ (.int .i64 0)).setCell ⟨t5, 3, none⟩ (.int .u16 0)).setCell ⟨t5, 4, none⟩ (.int .u16 0)).setCell ⟨t5, 5, none⟩ (.int .i64 0)).setCell ⟨t5, 6, none⟩ (.int .i64 3)) = w8 at b8 T8 hHeld ⊢
    clear ck0 ck1 ck2 ck3 ck4 ck5 ck6 fk0 fk1 fk2 fk3 fk4 fk5 fk6 bk0 bk1 bk2 bk3 bk4 bk5 bk6 a7
    have L8 := Lib.hid (L7.out.trans (T8.low HB5.out))
    have B8 := Lib.hid b8
    clear b8 T8
    refine hKK.out _ _ (by exact (HX.out _ L8.out)) (fun hHeld => ?_)
    clear hKK KK
    (try simp only [Act.put, List.setIfInBounds_toArray, List.set_cons_zero, List.set_cons_succ])
    refine wpAnyH_done (by kernel_rfl) ?_ _
    refine NoPanic.normal ?_
    clear hHeld hSd
    go_upto_region 3 with fail
    have l9 : Low w8.heap.size w8 (w8.alloc (.cells #[.int .i64 1] 3)) := (Low.refl _ _).alloc (Nat.le_refl _) _
    have a9 := heap_new w8 (.cells #[.int .i64 1] 3)
    have s9 : (w8.alloc (.cells #[.int .i64 1] 3)).heap.size = w8.heap.size + 1 := by simp
    obtain ⟨t6, ht6⟩ : ∃ t, t = w8.heap.size := ⟨_, rfl⟩
    rw [← ht6] at a9 s9 ⊢
    have HT6 := Lib.hid ht6
    clear ht6
    generalize w8.alloc (.cells #[.int .i64 1] 3) = w9 at l9 a9 s9 ⊢
    have HS9 := Lib.hid s9
    clear s9
    have aN := heap_new w9 (.cells #[.func (.func 93) #[] #[.pointer (some ⟨t6, 0, none⟩), .pointer (some ⟨t2, 0, none⟩)]] 208)
    have lN : Low w9.heap.size w9 (w9.alloc (.cells #[.func (.func 93) #[] #[.pointer (some ⟨t6, 0, none⟩), .pointer (some ⟨t2, 0, none⟩)]] 208)) := (Low.refl _ _).alloc (Nat.le_refl _) _
    go_upto_region 4 with fail
    obtain ⟨t7, ht7⟩ : ∃ t, t = w9.heap.size := ⟨_, rfl⟩
    rw [← ht7] at aN ⊢
    have HT7 := Lib.hid ht7
    clear ht7
    generalize w9.alloc (.cells #[.func (.func 93) #[] #[.pointer (some ⟨t6, 0, none⟩), .pointer (some ⟨t2, 0, none⟩)]] 208) = wA at lN aN ⊢
    have LA := Lib.hid (L8.out.trans ((l9.trans (lN.mono l9.size)).mono L8.out.size))
    have HB := Lib.hid (show RdSt t5 t6 t7 t2 w1 n 0 0 0 3 1 wA from ⟨LA.out, (lN.some ((l9.some B8.out))), lN.some a9, aN⟩)
    have HNE : Hid (t2 < t5 ∧ t5 < t6 ∧ t6 < t7) := Lib.hid ⟨by have := HB5.out; have := heap_lt A2.out; omega, by have := HT6.out; have := heap_lt B8.out; omega, by have := HT6.out; have := HT7.out; have := HS9.out; omega⟩
    clear lN aN l9 a9
    obtain ⟨g0, g1, g2, g3⟩ : wA.cell? ⟨t3, 0, none⟩ = some (.int .i64 2) ∧ wA.cell? ⟨t3, 1, none⟩ = some (.int .i64 5) ∧ wA.cell? ⟨t3, 2, none⟩ = some (.int .i64 0) ∧ wA.cell? ⟨t3, 3, none⟩ = some (.int .i64 0) := by
      have := LA.out.some A3.out
      exact ⟨cell_of this, cell_of this, cell_of this, cell_of this⟩
    go_wp2_with fail
    clear g0 g1 g2 g3
    go_loopw [22] (fun i wr => (i = .int .i64 0 ∧ RdSt t5 t6 t7 t2 w1 n 0 0 0 3 1 wr) ∨ (i = .int .i64 1 ∧ RdSt t5 t6 t7 t2 w1 n d 0 0 3 2 wr) ∨ (i = .int .i64 2 ∧ RdSt t5 t6 t7 t2 w1 n d 0 (extP b) 3 3 wr) ∨ (i = .int .i64 3 ∧ RdSt t5 t6 t7 t2 w1 n d 0 (extP b) 3 3 wr) ∨ (i = .int .i64 4 ∧ RdSt t5 t6 t7 t2 w1 n d 0 (extP b) 3 3 wr)) (fun i _ => 4 - (intOf i).toNat)
    case atStart => exact .inl ⟨rfl, HB.out⟩
    case round =>
      obtain ⟨wv, rfl⟩ : ∃ u, u = wr := ⟨_, rfl⟩
      skip
      have j0 := index_0; have j1 := index_1; have j2 := index_2; have j3 := index_3
      rcases hrel with ⟨rfl, hR⟩ | ⟨rfl, hR⟩ | ⟨rfl, hR⟩ | ⟨rfl, hR⟩ | ⟨rfl, hR⟩
      · obtain ⟨r1, r2, r3, r4⟩ := hR
        have hNE := HNE.out
        have n1 := next_any wv t6 t2 1 s (d) (by omega) r3 (HX.out _ r1) (by omega) h5 (by omega)
        have c7 : wv.cell? ⟨t7, 0, none⟩ = some (.func (.func 93) #[] #[.pointer (some ⟨t6, 0, none⟩), .pointer (some ⟨t2, 0, none⟩)]) := cell_of r4
        have R1 := Lib.hid r1; have R2 := Lib.hid r2; have R4 := Lib.hid r4
        clear r1 r2 r3 r4 hNE
        go_wp2_with (first
          | (go_at_call 93
             refine n1.mono ?_
             rintro e' w2 ⟨rfl, h6', hT⟩
             have hb5 := (hT.block t5 (by have := HNE.out; omega)).trans R2.out
             have HT2 := Lib.hid hT; have H6 := Lib.hid h6'
             clear hT h6'
             have cs1 := cell_of (j := 1) hb5
             have fs1 := free_of (j := 1) hb5
             have bs1 := set_blk (i := 1) (v := .int .i64 d) hb5)
          | (go_at_call 95; refine (extend_any _ _).mono ?_; rintro e u ⟨rfl, hu⟩; rw [hu]; clear hu u))
        have q5 : ((w2.setCell ⟨t5, 1, none⟩ (.int .i64 d))).heap[t5]? = some (insC n d 0 0 0 0 3) := by simpa using bs1
        exact ⟨.inr (.inl ⟨rfl, (R1.out.trans (HT2.out.low (by have := HNE.out; have := HB5.out; omega))).setCell (g := t5) (i := 1) HB5.out (.int .i64 d), q5, (set_other (by have := HNE.out; omega)).trans ((H6.out).trans (by simp)), (set_other (by have := HNE.out; omega)).trans ((HT2.out.block t7 (by have := HNE.out; omega)).trans R4.out)⟩), by decide⟩
      · obtain ⟨r1, r2, r3, r4⟩ := hR
        have hNE := HNE.out
        have n1 := next_any wv t6 t2 2 s (b) (by omega) r3 (HX.out _ r1) (by omega) h6 (by omega)
        have c7 : wv.cell? ⟨t7, 0, none⟩ = some (.func (.func 93) #[] #[.pointer (some ⟨t6, 0, none⟩), .pointer (some ⟨t2, 0, none⟩)]) := cell_of r4
        have R1 := Lib.hid r1; have R2 := Lib.hid r2; have R4 := Lib.hid r4
        clear r1 r2 r3 r4 hNE
        go_wp2_with (first
          | (go_at_call 93
             refine n1.mono ?_
             rintro e' w2 ⟨rfl, h6', hT⟩
             have hb5 := (hT.block t5 (by have := HNE.out; omega)).trans R2.out
             have HT2 := Lib.hid hT; have H6 := Lib.hid h6'
             clear hT h6'
             have cs3 := cell_of (j := 3) hb5
             have fs3 := free_of (j := 3) hb5
             have bs3 := set_blk (i := 3) (v := .int .u16 (extP b)) hb5)
          | (go_at_call 95; refine (extend_any _ _).mono ?_; rintro e u ⟨rfl, hu⟩; rw [hu]; clear hu u))
        have q5 : ((w2.setCell ⟨t5, 3, none⟩ (.int .u16 (extP b)))).heap[t5]? = some (insC n d 0 (extP b) 0 0 3) := by simpa using bs3
        exact ⟨.inr (.inr (.inl ⟨rfl, (R1.out.trans (HT2.out.low (by have := HNE.out; have := HB5.out; omega))).setCell (g := t5) (i := 3) HB5.out (.int .u16 (extP b)), q5, (set_other (by have := HNE.out; omega)).trans ((H6.out).trans (by simp)), (set_other (by have := HNE.out; omega)).trans ((HT2.out.block t7 (by have := HNE.out; omega)).trans R4.out)⟩)), by decide⟩
      · go_wp2_with fail
        exact ⟨.inr (.inr (.inr (.inl ⟨rfl, hR⟩))), by decide⟩
      · go_wp2_with fail
        exact ⟨.inr (.inr (.inr (.inr (⟨rfl, hR⟩)))), by decide⟩
      · have hb5 := hR.2.1
        have h4 := hR.1.some A4.out
        obtain ⟨x0, x1, x2, x3, x4, x5, x6⟩ : InsAt t5 n d 0 (extP b) 0 0 3 wv := ⟨cell_of hb5, cell_of hb5, cell_of hb5, cell_of hb5, cell_of hb5, cell_of hb5, cell_of hb5⟩
        have cz0 := cell_of (j := 0) h4
        have fz0 := free_of (j := 0) h4
        have bz0 := set_blk (i := 0) (v := .int .i64 n) h4
        have cz1 := cell_of (j := 1) bz0
        have fz1 := free_of (j := 1) bz0
        have bz1 := set_blk (i := 1) (v := .int .i64 d) bz0
        have cz2 := cell_of (j := 2) bz1
        have fz2 := free_of (j := 2) bz1
        have bz2 := set_blk (i := 2) (v := .int .i64 0) bz1
        have cz3 := cell_of (j := 3) bz2
        have fz3 := free_of (j := 3) bz2
        have bz3 := set_blk (i := 3) (v := .int .u16 (extP b)) bz2
        have cz4 := cell_of (j := 4) bz3
        have fz4 := free_of (j := 4) bz3
        have bz4 := set_blk (i := 4) (v := .int .u16 0) bz3
        have cz5 := cell_of (j := 5) bz4
        have fz5 := free_of (j := 5) bz4
        have bz5 := set_blk (i := 5) (v := .int .i64 0) bz4
        have cz6 := cell_of (j := 6) bz5
        have fz6 := free_of (j := 6) bz5
        have bz6 := set_blk (i := 6) (v := .int .i64 3) bz5
        have q4 : ((((((((wv.setCell ⟨t4, 0, none⟩ (.int .i64 n)).setCell ⟨t4, 1, none⟩ (.int .i64 d)).setCell ⟨t4, 2, none⟩ (.int .i64 0)).setCell ⟨t4, 3, none⟩ (.int .u16 (extP b))).setCell ⟨t4, 4, none⟩ (.int .u16 0)).setCell ⟨t4, 5, none⟩ (.int .i64 0)).setCell ⟨t4, 6, none⟩ (.int .i64 3))).heap[t4]? = some (insC n d 0 (extP b) 0 0 3) := by simpa using bz6
        have rz0 : (wv.setCell ⟨t4, 0, none⟩ (.int .i64 n)).cell? ⟨t4, 0, none⟩ = some (.int .i64 n) := (cell_of bz0).trans (by simp)
        have rz1 : ((wv.setCell ⟨t4, 0, none⟩ (.int .i64 n)).setCell ⟨t4, 1, none⟩ (.int .i64 d)).cell? ⟨t4, 1, none⟩ = some (.int .i64 d) := (cell_of bz1).trans (by simp)
        have rz2 : (((wv.setCell ⟨t4, 0, none⟩ (.int .i64 n)).setCell ⟨t4, 1, none⟩ (.int .i64 d)).setCell ⟨t4, 2, none⟩ (.int .i64 0)).cell? ⟨t4, 2, none⟩ = some (.int .i64 0) := (cell_of bz2).trans (by simp)
        have rz3 : ((((wv.setCell ⟨t4, 0, none⟩ (.int .i64 n)).setCell ⟨t4, 1, none⟩ (.int .i64 d)).setCell ⟨t4, 2, none⟩ (.int .i64 0)).setCell ⟨t4, 3, none⟩ (.int .u16 (extP b))).cell? ⟨t4, 3, none⟩ = some (.int .u16 (extP b)) := (cell_of bz3).trans (by simp)
        have rz4 : (((((wv.setCell ⟨t4, 0, none⟩ (.int .i64 n)).setCell ⟨t4, 1, none⟩ (.int .i64 d)).setCell ⟨t4, 2, none⟩ (.int .i64 0)).setCell ⟨t4, 3, none⟩ (.int .u16 (extP b))).setCell ⟨t4, 4, none⟩ (.int .u16 0)).cell? ⟨t4, 4, none⟩ = some (.int .u16 0) := (cell_of bz4).trans (by simp)
        have rz5 : ((((((wv.setCell ⟨t4, 0, none⟩ (.int .i64 n)).setCell ⟨t4, 1, none⟩ (.int .i64 d)).setCell ⟨t4, 2, none⟩ (.int .i64 0)).setCell ⟨t4, 3, none⟩ (.int .u16 (extP b))).setCell ⟨t4, 4, none⟩ (.int .u16 0)).setCell ⟨t4, 5, none⟩ (.int .i64 0)).cell? ⟨t4, 5, none⟩ = some (.int .i64 0) := (cell_of bz5).trans (by simp)
        have rz6 : (((((((wv.setCell ⟨t4, 0, none⟩ (.int .i64 n)).setCell ⟨t4, 1, none⟩ (.int .i64 d)).setCell ⟨t4, 2, none⟩ (.int .i64 0)).setCell ⟨t4, 3, none⟩ (.int .u16 (extP b))).setCell ⟨t4, 4, none⟩ (.int .u16 0)).setCell ⟨t4, 5, none⟩ (.int .i64 0)).setCell ⟨t4, 6, none⟩ (.int .i64 3)).cell? ⟨t4, 6, none⟩ = some (.int .i64 3) := (cell_of bz6).trans (by simp)
        have LZ := Lib.hid (L1.out.trans ((hR.1.mono (L1h.out)).trans (((((((((Low.refl S wv).setCell (g := t4) (i := 0) HT4.out (.int .i64 n)).setCell (g := t4) (i := 1) HT4.out (.int .i64 d)).setCell (g := t4) (i := 2) HT4.out (.int .i64 0)).setCell (g := t4) (i := 3) HT4.out (.int .u16 (extP b))).setCell (g := t4) (i := 4) HT4.out (.int .u16 0)).setCell (g := t4) (i := 5) HT4.out (.int .i64 0)).setCell (g := t4) (i := 6) HT4.out (.int .i64 3)))))
        clear hR
        go_wp2_with fail
        (try simp only [Exit.inBlock, Exit.then])
        refine bodyPost_ret (by simp [results, Tryz.results77, go_sem, rz0, rz1, rz2, rz3, rz4, rz5, rz6]; try rfl) rfl ?_
        exact ⟨rfl, by rw [HSS.out]; exact LZ.out⟩
  · have l7 : Low wd.heap.size wd (wd.alloc (insC 0 0 0 0 0 0 0)) := (Low.refl _ _).alloc (Nat.le_refl _) _
    have a5 := heap_new wd (insC 0 0 0 0 0 0 0)
    go_simp
    obtain ⟨t5, ht5⟩ : ∃ t, t = wd.heap.size := ⟨_, rfl⟩
    rw [← ht5] at a5 ⊢
    have HB5 : Hid (w1.heap.size ≤ t5) := Lib.hid (by have := HLd.out.size; omega)
    clear ht5
    generalize wd.alloc (insC 0 0 0 0 0 0 0) = w6 at l7 a5 hHeld ⊢
    have L6 := Lib.hid (HLd.out.trans (l7.mono HLd.out.size))
    have A5 := Lib.hid a5
    clear l7 a5
    refine hKK.out _ _ (by exact (HX.out _ L6.out)) (fun hHeld => ?_)
    clear hKK KK
    (try simp only [Act.put, List.setIfInBounds_toArray, List.set_cons_zero, List.set_cons_succ])
    have hsz := size_low (op := n) (by omega) w6
    rw [hz] at hsz
    refine wpAnyH_ready (rs := [5]) (by kernel_rfl) (by simp) ?_
    refine next_at (i := 5) rfl (fun KK hKK => ?_) AllReadyH.nil
    refine step_call rfl 76 #[.int .u8 n] (by go_simp) (fun v w' => v = .int .i64 3 ∧ Low w6.heap.size w6 w') (hsz.mono (by rintro e w' ⟨rfl, he⟩; exact ⟨_, rfl, rfl, he⟩)) ?_
    rintro v w7 ⟨rfl, l7⟩
    have L7 := Lib.hid (L6.out.trans (l7.mono L6.out.size))
    have a7 := l7.some A5.out
    clear l7 hsz
    refine hKK.out _ _ (by exact (HX.out _ L7.out)) (fun hHeld => ?_)
    clear hKK KK
    (try simp only [Act.put, List.setIfInBounds_toArray, List.set_cons_zero, List.set_cons_succ])
    refine take_at (i := 6) (v := ?_) rfl (by kernel_rfl) (by kernel_rfl) (by kernel_rfl) (fun _ _ _ h => h) (by rfl) ?_ (by exact hHeld) ?_
    rotate_left
    · intro w' hSw; have y0 := hSw; (try dsimp only at y0); go_simp; (try with_reducible rfl)
    (try simp only [Act.put, List.setIfInBounds_toArray, List.set_cons_zero, List.set_cons_succ])
    refine wpAnyH_ready (rs := [8]) (by kernel_rfl) (by simp) ?_
    refine next_at (i := 8) rfl (fun KK hKK => ?_) AllReadyH.nil
    have ck0 := cell_of (j := 0) a7
    have fk0 := free_of (j := 0) a7
    have bk0 := set_blk (i := 0) (v := .int .i64 n) a7
    have ck1 := cell_of (j := 1) bk0
    have fk1 := free_of (j := 1) bk0
    have bk1 := set_blk (i := 1) (v := .int .i64 0) bk0
    have ck2 := cell_of (j := 2) bk1
    have fk2 := free_of (j := 2) bk1
    have bk2 := set_blk (i := 2) (v := .int .i64 0) bk1
    have ck3 := cell_of (j := 3) bk2
    have fk3 := free_of (j := 3) bk2
    have bk3 := set_blk (i := 3) (v := .int .u16 0) bk2
    have ck4 := cell_of (j := 4) bk3
    have fk4 := free_of (j := 4) bk3
    have bk4 := set_blk (i := 4) (v := .int .u16 0) bk3
    have ck5 := cell_of (j := 5) bk4
    have fk5 := free_of (j := 5) bk4
    have bk5 := set_blk (i := 5) (v := .int .i64 0) bk4
    have ck6 := cell_of (j := 6) bk5
    have fk6 := free_of (j := 6) bk5
    have bk6 := set_blk (i := 6) (v := .int .i64 3) bk5
    go_simp
    have b8 : ((((((((w7.setCell ⟨t5, 0, none⟩ (.int .i64 n)).setCell ⟨t5, 1, none⟩ (.int .i64 0)).setCell ⟨t5, 2, none⟩ (.int .i64 0)).setCell ⟨t5, 3, none⟩ (.int .u16 0)).setCell ⟨t5, 4, none⟩ (.int .u16 0)).setCell ⟨t5, 5, none⟩ (.int .i64 0)).setCell ⟨t5, 6, none⟩ (.int .i64 3))).heap[t5]? = some (insC n 0 0 0 0 0 3) := by simpa using bk6
    have T8 : Turned t5 w7 ((((((((w7.setCell ⟨t5, 0, none⟩ (.int .i64 n)).setCell ⟨t5, 1, none⟩ (.int .i64 0)).setCell ⟨t5, 2, none⟩ (.int .i64 0)).setCell ⟨t5, 3, none⟩ (.int .u16 0)).setCell ⟨t5, 4, none⟩ (.int .u16 0)).setCell ⟨t5, 5, none⟩ (.int .i64 0)).setCell ⟨t5, 6, none⟩ (.int .i64 3))) := ((((((Turned.set _ _ _ _).trans (Turned.set _ _ _ _)).trans (Turned.set _ _ _ _)).trans (Turned.set _ _ _ _)).trans (Turned.set _ _ _ _)).trans (Turned.set _ _ _ _)).trans (Turned.set _ _ _ _)
    generalize (((((((w7.setCell ⟨t5, 0, none⟩ (.int .i64 n)).setCell ⟨t5, 1, none⟩ (.int .i64 0)).setCell ⟨t5, 2, none⟩ (.int .i64 0)).setCell ⟨t5, 3, none⟩ (.int .u16 0)).setCell ⟨t5, 4, none⟩ (.int .u16 0)).setCell ⟨t5, 5, none⟩ (.int .i64 0)).setCell ⟨t5, 6, none⟩ (.int .i64 3)) = w8 at b8 T8 hHeld ⊢
    clear ck0 ck1 ck2 ck3 ck4 ck5 ck6 fk0 fk1 fk2 fk3 fk4 fk5 fk6 bk0 bk1 bk2 bk3 bk4 bk5 bk6 a7
    have L8 := Lib.hid (L7.out.trans (T8.low HB5.out))
    have B8 := Lib.hid b8
    clear b8 T8
    refine hKK.out _ _ (by exact (HX.out _ L8.out)) (fun hHeld => ?_)
    clear hKK KK
    (try simp only [Act.put, List.setIfInBounds_toArray, List.set_cons_zero, List.set_cons_succ])
    refine wpAnyH_done (by kernel_rfl) ?_ _
    refine NoPanic.normal ?_
    clear hHeld hSd
    go_upto_region 3 with fail
    have l9 : Low w8.heap.size w8 (w8.alloc (.cells #[.int .i64 1] 3)) := (Low.refl _ _).alloc (Nat.le_refl _) _
    have a9 := heap_new w8 (.cells #[.int .i64 1] 3)
    have s9 : (w8.alloc (.cells #[.int .i64 1] 3)).heap.size = w8.heap.size + 1 := by simp
    obtain ⟨t6, ht6⟩ : ∃ t, t = w8.heap.size := ⟨_, rfl⟩
    rw [← ht6] at a9 s9 ⊢
    have HT6 := Lib.hid ht6
    clear ht6
    generalize w8.alloc (.cells #[.int .i64 1] 3) = w9 at l9 a9 s9 ⊢
    have HS9 := Lib.hid s9
    clear s9
    have aN := heap_new w9 (.cells #[.func (.func 93) #[] #[.pointer (some ⟨t6, 0, none⟩), .pointer (some ⟨t2, 0, none⟩)]] 208)
    have lN : Low w9.heap.size w9 (w9.alloc (.cells #[.func (.func 93) #[] #[.pointer (some ⟨t6, 0, none⟩), .pointer (some ⟨t2, 0, none⟩)]] 208)) := (Low.refl _ _).alloc (Nat.le_refl _) _
    go_upto_region 4 with fail
    obtain ⟨t7, ht7⟩ : ∃ t, t = w9.heap.size := ⟨_, rfl⟩
    rw [← ht7] at aN ⊢
    have HT7 := Lib.hid ht7
    clear ht7
    generalize w9.alloc (.cells #[.func (.func 93) #[] #[.pointer (some ⟨t6, 0, none⟩), .pointer (some ⟨t2, 0, none⟩)]] 208) = wA at lN aN ⊢
    have LA := Lib.hid (L8.out.trans ((l9.trans (lN.mono l9.size)).mono L8.out.size))
    have HB := Lib.hid (show RdSt t5 t6 t7 t2 w1 n 0 0 0 3 1 wA from ⟨LA.out, (lN.some ((l9.some B8.out))), lN.some a9, aN⟩)
    have HNE : Hid (t2 < t5 ∧ t5 < t6 ∧ t6 < t7) := Lib.hid ⟨by have := HB5.out; have := heap_lt A2.out; omega, by have := HT6.out; have := heap_lt B8.out; omega, by have := HT6.out; have := HT7.out; have := HS9.out; omega⟩
    clear lN aN l9 a9
    obtain ⟨g0, g1, g2, g3⟩ : wA.cell? ⟨t3, 0, none⟩ = some (.int .i64 2) ∧ wA.cell? ⟨t3, 1, none⟩ = some (.int .i64 5) ∧ wA.cell? ⟨t3, 2, none⟩ = some (.int .i64 0) ∧ wA.cell? ⟨t3, 3, none⟩ = some (.int .i64 0) := by
      have := LA.out.some A3.out
      exact ⟨cell_of this, cell_of this, cell_of this, cell_of this⟩
    go_wp2_with fail
    clear g0 g1 g2 g3
    go_loopw [22] (fun i wr => (i = .int .i64 0 ∧ RdSt t5 t6 t7 t2 w1 n 0 0 0 3 1 wr) ∨ (i = .int .i64 1 ∧ RdSt t5 t6 t7 t2 w1 n d 0 0 3 2 wr) ∨ (i = .int .i64 2 ∧ RdSt t5 t6 t7 t2 w1 n d 0 (extP b) 3 3 wr) ∨ (i = .int .i64 3 ∧ RdSt t5 t6 t7 t2 w1 n d 0 (extP b) 3 3 wr) ∨ (i = .int .i64 4 ∧ RdSt t5 t6 t7 t2 w1 n d 0 (extP b) 3 3 wr)) (fun i _ => 4 - (intOf i).toNat)
    case atStart => exact .inl ⟨rfl, HB.out⟩
    case round =>
      obtain ⟨wv, rfl⟩ : ∃ u, u = wr := ⟨_, rfl⟩
      skip
      have j0 := index_0; have j1 := index_1; have j2 := index_2; have j3 := index_3
      rcases hrel with ⟨rfl, hR⟩ | ⟨rfl, hR⟩ | ⟨rfl, hR⟩ | ⟨rfl, hR⟩ | ⟨rfl, hR⟩
      · obtain ⟨r1, r2, r3, r4⟩ := hR
        have hNE := HNE.out
        have n1 := next_any wv t6 t2 1 s (d) (by omega) r3 (HX.out _ r1) (by omega) h5 (by omega)
        have c7 : wv.cell? ⟨t7, 0, none⟩ = some (.func (.func 93) #[] #[.pointer (some ⟨t6, 0, none⟩), .pointer (some ⟨t2, 0, none⟩)]) := cell_of r4
        have R1 := Lib.hid r1; have R2 := Lib.hid r2; have R4 := Lib.hid r4
        clear r1 r2 r3 r4 hNE
        go_wp2_with (first
          | (go_at_call 93
             refine n1.mono ?_
             rintro e' w2 ⟨rfl, h6', hT⟩
             have hb5 := (hT.block t5 (by have := HNE.out; omega)).trans R2.out
             have HT2 := Lib.hid hT; have H6 := Lib.hid h6'
             clear hT h6'
             have cs1 := cell_of (j := 1) hb5
             have fs1 := free_of (j := 1) hb5
             have bs1 := set_blk (i := 1) (v := .int .i64 d) hb5)
          | (go_at_call 95; refine (extend_any _ _).mono ?_; rintro e u ⟨rfl, hu⟩; rw [hu]; clear hu u))
        have q5 : ((w2.setCell ⟨t5, 1, none⟩ (.int .i64 d))).heap[t5]? = some (insC n d 0 0 0 0 3) := by simpa using bs1
        exact ⟨.inr (.inl ⟨rfl, (R1.out.trans (HT2.out.low (by have := HNE.out; have := HB5.out; omega))).setCell (g := t5) (i := 1) HB5.out (.int .i64 d), q5, (set_other (by have := HNE.out; omega)).trans ((H6.out).trans (by simp)), (set_other (by have := HNE.out; omega)).trans ((HT2.out.block t7 (by have := HNE.out; omega)).trans R4.out)⟩), by decide⟩
      · obtain ⟨r1, r2, r3, r4⟩ := hR
        have hNE := HNE.out
        have n1 := next_any wv t6 t2 2 s (b) (by omega) r3 (HX.out _ r1) (by omega) h6 (by omega)
        have c7 : wv.cell? ⟨t7, 0, none⟩ = some (.func (.func 93) #[] #[.pointer (some ⟨t6, 0, none⟩), .pointer (some ⟨t2, 0, none⟩)]) := cell_of r4
        have R1 := Lib.hid r1; have R2 := Lib.hid r2; have R4 := Lib.hid r4
        clear r1 r2 r3 r4 hNE
        go_wp2_with (first
          | (go_at_call 93
             refine n1.mono ?_
             rintro e' w2 ⟨rfl, h6', hT⟩
             have hb5 := (hT.block t5 (by have := HNE.out; omega)).trans R2.out
             have HT2 := Lib.hid hT; have H6 := Lib.hid h6'
             clear hT h6'
             have cs3 := cell_of (j := 3) hb5
             have fs3 := free_of (j := 3) hb5
             have bs3 := set_blk (i := 3) (v := .int .u16 (extP b)) hb5)
          | (go_at_call 95; refine (extend_any _ _).mono ?_; rintro e u ⟨rfl, hu⟩; rw [hu]; clear hu u))
        have q5 : ((w2.setCell ⟨t5, 3, none⟩ (.int .u16 (extP b)))).heap[t5]? = some (insC n d 0 (extP b) 0 0 3) := by simpa using bs3
        exact ⟨.inr (.inr (.inl ⟨rfl, (R1.out.trans (HT2.out.low (by have := HNE.out; have := HB5.out; omega))).setCell (g := t5) (i := 3) HB5.out (.int .u16 (extP b)), q5, (set_other (by have := HNE.out; omega)).trans ((H6.out).trans (by simp)), (set_other (by have := HNE.out; omega)).trans ((HT2.out.block t7 (by have := HNE.out; omega)).trans R4.out)⟩)), by decide⟩
      · go_wp2_with fail
        exact ⟨.inr (.inr (.inr (.inl ⟨rfl, hR⟩))), by decide⟩
      · go_wp2_with fail
        exact ⟨.inr (.inr (.inr (.inr (⟨rfl, hR⟩)))), by decide⟩
      · have hb5 := hR.2.1
        have h4 := hR.1.some A4.out
        obtain ⟨x0, x1, x2, x3, x4, x5, x6⟩ : InsAt t5 n d 0 (extP b) 0 0 3 wv := ⟨cell_of hb5, cell_of hb5, cell_of hb5, cell_of hb5, cell_of hb5, cell_of hb5, cell_of hb5⟩
        have cz0 := cell_of (j := 0) h4
        have fz0 := free_of (j := 0) h4
        have bz0 := set_blk (i := 0) (v := .int .i64 n) h4
        have cz1 := cell_of (j := 1) bz0
        have fz1 := free_of (j := 1) bz0
        have bz1 := set_blk (i := 1) (v := .int .i64 d) bz0
        have cz2 := cell_of (j := 2) bz1
        have fz2 := free_of (j := 2) bz1
        have bz2 := set_blk (i := 2) (v := .int .i64 0) bz1
        have cz3 := cell_of (j := 3) bz2
        have fz3 := free_of (j := 3) bz2
        have bz3 := set_blk (i := 3) (v := .int .u16 (extP b)) bz2
        have cz4 := cell_of (j := 4) bz3
        have fz4 := free_of (j := 4) bz3
        have bz4 := set_blk (i := 4) (v := .int .u16 0) bz3
        have cz5 := cell_of (j := 5) bz4
        have fz5 := free_of (j := 5) bz4
        have bz5 := set_blk (i := 5) (v := .int .i64 0) bz4
        have cz6 := cell_of (j := 6) bz5
        have fz6 := free_of (j := 6) bz5
        have bz6 := set_blk (i := 6) (v := .int .i64 3) bz5
        have q4 : ((((((((wv.setCell ⟨t4, 0, none⟩ (.int .i64 n)).setCell ⟨t4, 1, none⟩ (.int .i64 d)).setCell ⟨t4, 2, none⟩ (.int .i64 0)).setCell ⟨t4, 3, none⟩ (.int .u16 (extP b))).setCell ⟨t4, 4, none⟩ (.int .u16 0)).setCell ⟨t4, 5, none⟩ (.int .i64 0)).setCell ⟨t4, 6, none⟩ (.int .i64 3))).heap[t4]? = some (insC n d 0 (extP b) 0 0 3) := by simpa using bz6
        have rz0 : (wv.setCell ⟨t4, 0, none⟩ (.int .i64 n)).cell? ⟨t4, 0, none⟩ = some (.int .i64 n) := (cell_of bz0).trans (by simp)
        have rz1 : ((wv.setCell ⟨t4, 0, none⟩ (.int .i64 n)).setCell ⟨t4, 1, none⟩ (.int .i64 d)).cell? ⟨t4, 1, none⟩ = some (.int .i64 d) := (cell_of bz1).trans (by simp)
        have rz2 : (((wv.setCell ⟨t4, 0, none⟩ (.int .i64 n)).setCell ⟨t4, 1, none⟩ (.int .i64 d)).setCell ⟨t4, 2, none⟩ (.int .i64 0)).cell? ⟨t4, 2, none⟩ = some (.int .i64 0) := (cell_of bz2).trans (by simp)
        have rz3 : ((((wv.setCell ⟨t4, 0, none⟩ (.int .i64 n)).setCell ⟨t4, 1, none⟩ (.int .i64 d)).setCell ⟨t4, 2, none⟩ (.int .i64 0)).setCell ⟨t4, 3, none⟩ (.int .u16 (extP b))).cell? ⟨t4, 3, none⟩ = some (.int .u16 (extP b)) := (cell_of bz3).trans (by simp)
        have rz4 : (((((wv.setCell ⟨t4, 0, none⟩ (.int .i64 n)).setCell ⟨t4, 1, none⟩ (.int .i64 d)).setCell ⟨t4, 2, none⟩ (.int .i64 0)).setCell ⟨t4, 3, none⟩ (.int .u16 (extP b))).setCell ⟨t4, 4, none⟩ (.int .u16 0)).cell? ⟨t4, 4, none⟩ = some (.int .u16 0) := (cell_of bz4).trans (by simp)
        have rz5 : ((((((wv.setCell ⟨t4, 0, none⟩ (.int .i64 n)).setCell ⟨t4, 1, none⟩ (.int .i64 d)).setCell ⟨t4, 2, none⟩ (.int .i64 0)).setCell ⟨t4, 3, none⟩ (.int .u16 (extP b))).setCell ⟨t4, 4, none⟩ (.int .u16 0)).setCell ⟨t4, 5, none⟩ (.int .i64 0)).cell? ⟨t4, 5, none⟩ = some (.int .i64 0) := (cell_of bz5).trans (by simp)
        have rz6 : (((((((wv.setCell ⟨t4, 0, none⟩ (.int .i64 n)).setCell ⟨t4, 1, none⟩ (.int .i64 d)).setCell ⟨t4, 2, none⟩ (.int .i64 0)).setCell ⟨t4, 3, none⟩ (.int .u16 (extP b))).setCell ⟨t4, 4, none⟩ (.int .u16 0)).setCell ⟨t4, 5, none⟩ (.int .i64 0)).setCell ⟨t4, 6, none⟩ (.int .i64 3)).cell? ⟨t4, 6, none⟩ = some (.int .i64 3) := (cell_of bz6).trans (by simp)
        have LZ := Lib.hid (L1.out.trans ((hR.1.mono (L1h.out)).trans (((((((((Low.refl S wv).setCell (g := t4) (i := 0) HT4.out (.int .i64 n)).setCell (g := t4) (i := 1) HT4.out (.int .i64 d)).setCell (g := t4) (i := 2) HT4.out (.int .i64 0)).setCell (g := t4) (i := 3) HT4.out (.int .u16 (extP b))).setCell (g := t4) (i := 4) HT4.out (.int .u16 0)).setCell (g := t4) (i := 5) HT4.out (.int .i64 0)).setCell (g := t4) (i := 6) HT4.out (.int .i64 3)))))
        clear hR
        go_wp2_with fail
        (try simp only [Exit.inBlock, Exit.then])
        refine bodyPost_ret (by simp [results, Tryz.results77, go_sem, rz0, rz1, rz2, rz3, rz4, rz5, rz6]; try rfl) rfl ?_
        exact ⟨rfl, by rw [HSS.out]; exact LZ.out⟩

end Go.Proofs.YtjkaoejcdboaiaaGreat
