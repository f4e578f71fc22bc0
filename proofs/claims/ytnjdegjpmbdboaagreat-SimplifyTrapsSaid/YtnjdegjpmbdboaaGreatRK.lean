/- The view of a graph of one node. -/
import Derived.Test.YtnjdegjpmbdboaaGreatRI
namespace Go.Proofs.YtnjdegjpmbdboaaGreat
open Go.RowKit
set_option linter.unusedVariables false
set_option maxRecDepth 100000 in
set_option maxHeartbeats 16000000 in
theorem view_any (w : World) (r : Nat) (hr : w.heap[r]? = some (.cells #[.slice none 0 0] 22 (0, 0))): Calls Tryz.prog 139 #[.agg #[.slice (some ⟨r, 0, none⟩) 1 1]] w (fun e w' => Low w.heap.size w w' ∧ ∃ v gp c X Y, e = .returned (.pointer (some ⟨v, 0, none⟩)) ∧ w'.heap[v]? = some (.cells #[.slice (some ⟨gp, 0, none⟩) 1 c, X, Y] 189 (0, 0)) ∧ 1 ≤ c) := by
  have hm53 : ∀ u : World, (Instr.makeMap 53 none).run Tryz.prog u = .ok (.map (some u.heap.size)) (u.alloc (.map #[] 0)) := fun u => by kernel_rfl
  have hms : ∀ u : World, (Instr.makeSlice 138 (.int .i64 1) (.int .i64 1)).run Tryz.prog u = .ok (.slice (some ⟨u.heap.size, 0, none⟩) 1 1) (u.alloc (.cells #[.slice none 0 0] 22)) := fun u => by kernel_rfl
  have l1 : Low w.heap.size w (w.alloc (.cells #[.slice (some ⟨r, 0, none⟩) 1 1] 140)) := (Low.refl _ w).alloc (Nat.le_refl _) _
  have a1 := heap_new w (.cells #[.slice (some ⟨r, 0, none⟩) 1 1] 140)
  have r1 := l1.some hr
  clear hr
  go_enter Tryz.func139, Tryz.ntmps139
  go_upto_region 1 with fail
  obtain ⟨t1, ht1⟩ : ∃ t, t = w.heap.size := ⟨_, rfl⟩
  rw [← ht1] at a1 ⊢
  clear ht1
  generalize w.alloc (.cells #[.slice (some ⟨r, 0, none⟩) 1 1] 140) = w1 at a1 l1 r1 ⊢
  have hord : ∀ u, Low w1.heap.size w1 u → Calls Tryz.prog 101 #[.agg #[.slice (some ⟨r, 0, none⟩) 1 1]] u (fun e w' => ∃ v, e = .returned v ∧ (Low u.heap.size u w' ∧ ∃ gp c cs, v = .slice (some ⟨gp, 0, none⟩) 1 c ∧ 1 ≤ c ∧ u.heap.size ≤ gp ∧ w'.heap[gp]? = some (.cells cs 3 (0, 0)) ∧ cs[0]? = some (.int .i64 0))) := fun u hu =>
    (order_any u r (hu.some r1)).mono (fun e w' ⟨a, gp, c, cs, he, h1, h2, h3, h4⟩ => ⟨_, he, a, gp, c, cs, rfl, h1, h2, h3, h4⟩)
  have L1 := Lib.hid l1; have A1 := Lib.hid a1; have R1 := Lib.hid r1; have HORD := Lib.hid hord
  have LZ := Lib.hid (Low.refl w1.heap.size w1)
  have hS1 : w1.cell? ⟨t1, 0, none⟩ = some (.slice (some ⟨r, 0, none⟩) 1 1) := cell_of a1
  clear l1 a1 r1 hord
  go_cut [3] (fun v3 wx => ∃ v gp c cs m q, v3 = .pointer (some ⟨v, 0, none⟩) ∧ Low w1.heap.size w1 wx ∧ w1.heap.size ≤ v ∧ w1.heap.size ≤ m ∧ wx.heap[v]? = some (.cells #[.slice (some ⟨gp, 0, none⟩) 1 c, .map (some m), .slice (some ⟨q, 0, none⟩) 1 1] 189 (0, 0)) ∧ wx.heap[m]? = some (.map #[] 0) ∧ wx.heap[gp]? = some (.cells cs 3 (0, 0)) ∧ cs[0]? = some (.int .i64 0) ∧ 1 ≤ c)
  case first =>
    refine wp_region_noPanic ?_
    refine wp_region_held_drew (S := fun w' => w'.cell? ⟨t1, 0, none⟩ = some (.slice (some ⟨r, 0, none⟩) 1 1)) (by kernel_rfl) (by exact hS1) (fun hHeld => ?_)
    refine take_at (i := 0) (v := ?_) rfl (by kernel_rfl) (by kernel_rfl) (by kernel_rfl) (fun _ _ _ h => h) (by rfl) ?_ (by assumption) ?_
    rotate_left
    · intro w' hSw; have s0 := hSw; go_simp; (try with_reducible rfl)
    (try simp only [Act.put, List.setIfInBounds_toArray, List.set_cons_zero, List.set_cons_succ])
    refine take_at (i := 3) (v := ?_) rfl (by kernel_rfl) (by kernel_rfl) (by kernel_rfl) (fun _ _ _ h => h) (by rfl) ?_ (by assumption) ?_
    rotate_left
    · intro w' hSw; have s0 := hSw; go_simp; (try with_reducible rfl)
    (try simp only [Act.put, List.setIfInBounds_toArray, List.set_cons_zero, List.set_cons_succ])
    refine take_at (i := 4) (v := ?_) rfl (by kernel_rfl) (by kernel_rfl) (by kernel_rfl) (fun _ _ _ h => h) (by rfl) ?_ (by assumption) ?_
    rotate_left
    · intro w' hSw; have s0 := hSw; go_simp; (try with_reducible rfl)
    (try simp only [Act.put, List.setIfInBounds_toArray, List.set_cons_zero, List.set_cons_succ])
    refine take_at (i := 5) (v := ?_) rfl (by kernel_rfl) (by kernel_rfl) (by kernel_rfl) (fun _ _ _ h => h) (by rfl) ?_ (by assumption) ?_
    rotate_left
    · intro w' hSw; have s0 := hSw; go_simp; (try with_reducible rfl)
    (try simp only [Act.put, List.setIfInBounds_toArray, List.set_cons_zero, List.set_cons_succ])
    refine wpAnyH_ready (rs := [1, 2, 6]) (by kernel_rfl) (by simp) ?_
    refine next_at (i := 1) rfl (fun KK hKK => ?_) (next_at (i := 2) rfl (fun KK hKK => ?_) (next_at (i := 6) rfl (fun KK hKK => ?_) AllReadyH.nil))
    · obtain ⟨wd1, hwd2⟩ : ∃ u, u = w1.drew := ⟨_, rfl⟩
      have ld3 : Low w1.heap.size w1 wd1 := hwd2 ▸ (Low.refl _ w1).drew
      rw [← hwd2]
      clear hwd2
      have LD4 := Lib.hid (LZ.out.trans (ld3.mono LZ.out.size)); have AD5 := Lib.hid (ld3.some A1.out)
      clear ld3
      refine step_call rfl 101 #[.agg #[.slice (some ⟨r, 0, none⟩) 1 1]] (by go_simp) _ (HORD.out wd1 LD4.out) ?_
      rintro v18 w6 ⟨l7, gp11, c12, cs13, rfl, hc14, hge15, hg16, hz17⟩
      have HC20 := Lib.hid hc14
      have GP19 := Lib.hid hg16; have GZ20 := Lib.hid hz17
      have L8 := Lib.hid (LD4.out.trans (l7.mono LD4.out.size)); have a10 := l7.some AD5.out; have A9 := Lib.hid a10
      have hS21 := cell_of (j := 0) a10
      refine hKK.out _ _ (by exact hS21) (fun hHeld => ?_)
      clear hKK KK l7 a10 hc14 hge15 hg16 hz17
      (try simp only [Act.put, List.setIfInBounds_toArray, List.set_cons_zero, List.set_cons_succ])
      refine wpAnyH_ready (rs := [2, 6]) (by kernel_rfl) (by simp) ?_
      refine next_at (i := 2) rfl (fun KK hKK => ?_) (next_at (i := 6) rfl (fun KK hKK => ?_) AllReadyH.nil)
      · go_simp
        have l23 : Low w6.heap.size w6 (w6.alloc (.map #[] 0)) := (Low.refl _ _).alloc (Nat.le_refl _) _
        have hb28 := heap_new w6 (.map #[] 0)
        have hs29 := L8.out.size
        obtain ⟨b27, hqb27⟩ : ∃ t, t = w6.heap.size := ⟨_, rfl⟩
        rw [← hqb27] at hb28 hs29 ⊢
        clear hqb27
        generalize w6.alloc (.map #[] 0) = w22 at l23 hb28 ⊢
        have M30 := Lib.hid hb28; have HS31 := Lib.hid hs29
        have L24 := Lib.hid (L8.out.trans (l23.mono L8.out.size)); have a26 := l23.some A9.out; have A25 := Lib.hid a26
        have GP32 := Lib.hid (l23.some GP19.out)
        have hS33 := cell_of (j := 0) a26
        refine hKK.out _ _ (by exact hS33) (fun hHeld => ?_)
        clear hKK KK l23 a26 hb28 hs29
        (try simp only [Act.put, List.setIfInBounds_toArray, List.set_cons_zero, List.set_cons_succ])
        refine wpAnyH_ready (rs := [6]) (by kernel_rfl) (by simp) ?_
        refine next_at (i := 6) rfl (fun KK hKK => ?_) AllReadyH.nil
        · go_simp
          have l35 : Low w22.heap.size w22 (w22.alloc (.cells #[.slice none 0 0] 22)) := (Low.refl _ _).alloc (Nat.le_refl _) _
          have hb40 := heap_new w22 (.cells #[.slice none 0 0] 22)
          have hs41 := L24.out.size
          obtain ⟨b39, hqb39⟩ : ∃ t, t = w22.heap.size := ⟨_, rfl⟩
          rw [← hqb39] at hb40 hs41 ⊢
          clear hqb39
          generalize w22.alloc (.cells #[.slice none 0 0] 22) = w34 at l35 hb40 ⊢
          have M42 := Lib.hid hb40; have HS43 := Lib.hid hs41
          have L36 := Lib.hid (L24.out.trans (l35.mono L24.out.size)); have a38 := l35.some A25.out; have A37 := Lib.hid a38
          have GP44 := Lib.hid (l35.some GP32.out)
          have M45 := Lib.hid (l35.some M30.out)
          have hS46 := cell_of (j := 0) a38
          refine hKK.out _ _ (by exact hS46) (fun hHeld => ?_)
          clear hKK KK l35 a38 hb40 hs41
          (try simp only [Act.put, List.setIfInBounds_toArray, List.set_cons_zero, List.set_cons_succ])
          refine take_at (i := 7) (v := ?_) rfl (by kernel_rfl) (by kernel_rfl) (by kernel_rfl) (fun _ _ _ h => h) (by rfl) ?_ (by assumption) ?_
          rotate_left
          · intro w' hSw; have s0 := hSw; go_simp; (try with_reducible rfl)
          (try simp only [Act.put, List.setIfInBounds_toArray, List.set_cons_zero, List.set_cons_succ])
          refine wpAnyH_ready (rs := [8]) (by kernel_rfl) (by simp) ?_
          refine next_at (i := 8) rfl (fun KK hKK => ?_) AllReadyH.nil
          go_simp
          have lb : Low w34.heap.size w34 (w34.alloc (.cells #[.slice (some ⟨gp11, 0, none⟩) 1 c12, .map (some b27), .slice (some ⟨b39, 0, none⟩) 1 1] 189)) := (Low.refl _ _).alloc (Nat.le_refl _) _
          have LB := Lib.hid lb
          have hSb := cell_of (j := 0) (lb.some A37.out)
          refine hKK.out _ _ (by exact hSb) (fun hHeld => ?_)
          clear hKK KK lb
          (try simp only [Act.put, List.setIfInBounds_toArray, List.set_cons_zero, List.set_cons_succ])
          refine take_at (i := 9) (v := ?_) rfl (by kernel_rfl) (by kernel_rfl) (by kernel_rfl) (fun _ _ _ h => h) (by rfl) ?_ (by assumption) ?_
          rotate_left
          · intro w' hSw; have s0 := hSw; go_simp; (try with_reducible rfl)
          (try simp only [Act.put, List.setIfInBounds_toArray, List.set_cons_zero, List.set_cons_succ])
          refine wpAnyH_done (by kernel_rfl) ?_ _
          refine NoPanic.normal ?_
          (try go_wp2_with fail)
          go_meet
          exact ⟨w34.heap.size, gp11, c12, cs13, b27, b39, rfl, L36.out.trans (LB.out.mono L36.out.size), L36.out.size, HS31.out, heap_new w34 _, LB.out.some M45.out, LB.out.some GP44.out, GZ20.out, HC20.out⟩
      · go_simp
        have l48 : Low w6.heap.size w6 (w6.alloc (.cells #[.slice none 0 0] 22)) := (Low.refl _ _).alloc (Nat.le_refl _) _
        have hb53 := heap_new w6 (.cells #[.slice none 0 0] 22)
        have hs54 := L8.out.size
        obtain ⟨b52, hqb52⟩ : ∃ t, t = w6.heap.size := ⟨_, rfl⟩
        rw [← hqb52] at hb53 hs54 ⊢
        clear hqb52
        generalize w6.alloc (.cells #[.slice none 0 0] 22) = w47 at l48 hb53 ⊢
        have M55 := Lib.hid hb53; have HS56 := Lib.hid hs54
        have L49 := Lib.hid (L8.out.trans (l48.mono L8.out.size)); have a51 := l48.some A9.out; have A50 := Lib.hid a51
        have GP57 := Lib.hid (l48.some GP19.out)
        have hS58 := cell_of (j := 0) a51
        refine hKK.out _ _ (by exact hS58) (fun hHeld => ?_)
        clear hKK KK l48 a51 hb53 hs54
        (try simp only [Act.put, List.setIfInBounds_toArray, List.set_cons_zero, List.set_cons_succ])
        refine wpAnyH_ready (rs := [2]) (by kernel_rfl) (by simp) ?_
        refine next_at (i := 2) rfl (fun KK hKK => ?_) AllReadyH.nil
        · go_simp
          have l60 : Low w47.heap.size w47 (w47.alloc (.map #[] 0)) := (Low.refl _ _).alloc (Nat.le_refl _) _
          have hb65 := heap_new w47 (.map #[] 0)
          have hs66 := L49.out.size
          obtain ⟨b64, hqb64⟩ : ∃ t, t = w47.heap.size := ⟨_, rfl⟩
          rw [← hqb64] at hb65 hs66 ⊢
          clear hqb64
          generalize w47.alloc (.map #[] 0) = w59 at l60 hb65 ⊢
          have M67 := Lib.hid hb65; have HS68 := Lib.hid hs66
          have L61 := Lib.hid (L49.out.trans (l60.mono L49.out.size)); have a63 := l60.some A50.out; have A62 := Lib.hid a63
          have GP69 := Lib.hid (l60.some GP57.out)
          have hS70 := cell_of (j := 0) a63
          refine hKK.out _ _ (by exact hS70) (fun hHeld => ?_)
          clear hKK KK l60 a63 hb65 hs66
          (try simp only [Act.put, List.setIfInBounds_toArray, List.set_cons_zero, List.set_cons_succ])
          refine take_at (i := 7) (v := ?_) rfl (by kernel_rfl) (by kernel_rfl) (by kernel_rfl) (fun _ _ _ h => h) (by rfl) ?_ (by assumption) ?_
          rotate_left
          · intro w' hSw; have s0 := hSw; go_simp; (try with_reducible rfl)
          (try simp only [Act.put, List.setIfInBounds_toArray, List.set_cons_zero, List.set_cons_succ])
          refine wpAnyH_ready (rs := [8]) (by kernel_rfl) (by simp) ?_
          refine next_at (i := 8) rfl (fun KK hKK => ?_) AllReadyH.nil
          go_simp
          have lb : Low w59.heap.size w59 (w59.alloc (.cells #[.slice (some ⟨gp11, 0, none⟩) 1 c12, .map (some b64), .slice (some ⟨b52, 0, none⟩) 1 1] 189)) := (Low.refl _ _).alloc (Nat.le_refl _) _
          have LB := Lib.hid lb
          have hSb := cell_of (j := 0) (lb.some A62.out)
          refine hKK.out _ _ (by exact hSb) (fun hHeld => ?_)
          clear hKK KK lb
          (try simp only [Act.put, List.setIfInBounds_toArray, List.set_cons_zero, List.set_cons_succ])
          refine take_at (i := 9) (v := ?_) rfl (by kernel_rfl) (by kernel_rfl) (by kernel_rfl) (fun _ _ _ h => h) (by rfl) ?_ (by assumption) ?_
          rotate_left
          · intro w' hSw; have s0 := hSw; go_simp; (try with_reducible rfl)
          (try simp only [Act.put, List.setIfInBounds_toArray, List.set_cons_zero, List.set_cons_succ])
          refine wpAnyH_done (by kernel_rfl) ?_ _
          refine NoPanic.normal ?_
          (try go_wp2_with fail)
          go_meet
          exact ⟨w59.heap.size, gp11, c12, cs13, b64, b52, rfl, L61.out.trans (LB.out.mono L61.out.size), L61.out.size, HS68.out, heap_new w59 _, LB.out.some M67.out, LB.out.some GP69.out, GZ20.out, HC20.out⟩
    · obtain ⟨wd71, hwd72⟩ : ∃ u, u = w1.drew := ⟨_, rfl⟩
      have ld73 : Low w1.heap.size w1 wd71 := hwd72 ▸ (Low.refl _ w1).drew
      rw [← hwd72]
      clear hwd72
      have LD74 := Lib.hid (LZ.out.trans (ld73.mono LZ.out.size)); have AD75 := Lib.hid (ld73.some A1.out)
      clear ld73
      go_simp
      have l77 : Low wd71.heap.size wd71 (wd71.alloc (.map #[] 0)) := (Low.refl _ _).alloc (Nat.le_refl _) _
      have hb82 := heap_new wd71 (.map #[] 0)
      have hs83 := LD74.out.size
      obtain ⟨b81, hqb81⟩ : ∃ t, t = wd71.heap.size := ⟨_, rfl⟩
      rw [← hqb81] at hb82 hs83 ⊢
      clear hqb81
      generalize wd71.alloc (.map #[] 0) = w76 at l77 hb82 ⊢
      have M84 := Lib.hid hb82; have HS85 := Lib.hid hs83
      have L78 := Lib.hid (LD74.out.trans (l77.mono LD74.out.size)); have a80 := l77.some AD75.out; have A79 := Lib.hid a80
      have hS86 := cell_of (j := 0) a80
      refine hKK.out _ _ (by exact hS86) (fun hHeld => ?_)
      clear hKK KK l77 a80 hb82 hs83
      (try simp only [Act.put, List.setIfInBounds_toArray, List.set_cons_zero, List.set_cons_succ])
      refine wpAnyH_ready (rs := [1, 6]) (by kernel_rfl) (by simp) ?_
      refine next_at (i := 1) rfl (fun KK hKK => ?_) (next_at (i := 6) rfl (fun KK hKK => ?_) AllReadyH.nil)
      · refine step_call rfl 101 #[.agg #[.slice (some ⟨r, 0, none⟩) 1 1]] (by go_simp) _ (HORD.out w76 L78.out) ?_
        rintro v99 w87 ⟨l88, gp92, c93, cs94, rfl, hc95, hge96, hg97, hz98⟩
        have HC101 := Lib.hid hc95
        have GP100 := Lib.hid hg97; have GZ101 := Lib.hid hz98
        have L89 := Lib.hid (L78.out.trans (l88.mono L78.out.size)); have a91 := l88.some A79.out; have A90 := Lib.hid a91
        have M102 := Lib.hid (l88.some M84.out)
        have hS103 := cell_of (j := 0) a91
        refine hKK.out _ _ (by exact hS103) (fun hHeld => ?_)
        clear hKK KK l88 a91 hc95 hge96 hg97 hz98
        (try simp only [Act.put, List.setIfInBounds_toArray, List.set_cons_zero, List.set_cons_succ])
        refine wpAnyH_ready (rs := [6]) (by kernel_rfl) (by simp) ?_
        refine next_at (i := 6) rfl (fun KK hKK => ?_) AllReadyH.nil
        · go_simp
          have l105 : Low w87.heap.size w87 (w87.alloc (.cells #[.slice none 0 0] 22)) := (Low.refl _ _).alloc (Nat.le_refl _) _
          have hb110 := heap_new w87 (.cells #[.slice none 0 0] 22)
          have hs111 := L89.out.size
          obtain ⟨b109, hqb109⟩ : ∃ t, t = w87.heap.size := ⟨_, rfl⟩
          rw [← hqb109] at hb110 hs111 ⊢
          clear hqb109
          generalize w87.alloc (.cells #[.slice none 0 0] 22) = w104 at l105 hb110 ⊢
          have M112 := Lib.hid hb110; have HS113 := Lib.hid hs111
          have L106 := Lib.hid (L89.out.trans (l105.mono L89.out.size)); have a108 := l105.some A90.out; have A107 := Lib.hid a108
          have M114 := Lib.hid (l105.some M102.out)
          have GP115 := Lib.hid (l105.some GP100.out)
          have hS116 := cell_of (j := 0) a108
          refine hKK.out _ _ (by exact hS116) (fun hHeld => ?_)
          clear hKK KK l105 a108 hb110 hs111
          (try simp only [Act.put, List.setIfInBounds_toArray, List.set_cons_zero, List.set_cons_succ])
          refine take_at (i := 7) (v := ?_) rfl (by kernel_rfl) (by kernel_rfl) (by kernel_rfl) (fun _ _ _ h => h) (by rfl) ?_ (by assumption) ?_
          rotate_left
          · intro w' hSw; have s0 := hSw; go_simp; (try with_reducible rfl)
          (try simp only [Act.put, List.setIfInBounds_toArray, List.set_cons_zero, List.set_cons_succ])
          refine wpAnyH_ready (rs := [8]) (by kernel_rfl) (by simp) ?_
          refine next_at (i := 8) rfl (fun KK hKK => ?_) AllReadyH.nil
          go_simp
          have lb : Low w104.heap.size w104 (w104.alloc (.cells #[.slice (some ⟨gp92, 0, none⟩) 1 c93, .map (some b81), .slice (some ⟨b109, 0, none⟩) 1 1] 189)) := (Low.refl _ _).alloc (Nat.le_refl _) _
          have LB := Lib.hid lb
          have hSb := cell_of (j := 0) (lb.some A107.out)
          refine hKK.out _ _ (by exact hSb) (fun hHeld => ?_)
          clear hKK KK lb
          (try simp only [Act.put, List.setIfInBounds_toArray, List.set_cons_zero, List.set_cons_succ])
          refine take_at (i := 9) (v := ?_) rfl (by kernel_rfl) (by kernel_rfl) (by kernel_rfl) (fun _ _ _ h => h) (by rfl) ?_ (by assumption) ?_
          rotate_left
          · intro w' hSw; have s0 := hSw; go_simp; (try with_reducible rfl)
          (try simp only [Act.put, List.setIfInBounds_toArray, List.set_cons_zero, List.set_cons_succ])
          refine wpAnyH_done (by kernel_rfl) ?_ _
          refine NoPanic.normal ?_
          (try go_wp2_with fail)
          go_meet
          exact ⟨w104.heap.size, gp92, c93, cs94, b81, b109, rfl, L106.out.trans (LB.out.mono L106.out.size), L106.out.size, HS85.out, heap_new w104 _, LB.out.some M114.out, LB.out.some GP115.out, GZ101.out, HC101.out⟩
      · go_simp
        have l118 : Low w76.heap.size w76 (w76.alloc (.cells #[.slice none 0 0] 22)) := (Low.refl _ _).alloc (Nat.le_refl _) _
        have hb123 := heap_new w76 (.cells #[.slice none 0 0] 22)
        have hs124 := L78.out.size
        obtain ⟨b122, hqb122⟩ : ∃ t, t = w76.heap.size := ⟨_, rfl⟩
        rw [← hqb122] at hb123 hs124 ⊢
        clear hqb122
        generalize w76.alloc (.cells #[.slice none 0 0] 22) = w117 at l118 hb123 ⊢
        have M125 := Lib.hid hb123; have HS126 := Lib.hid hs124
        have L119 := Lib.hid (L78.out.trans (l118.mono L78.out.size)); have a121 := l118.some A79.out; have A120 := Lib.hid a121
        have M127 := Lib.hid (l118.some M84.out)
        have hS128 := cell_of (j := 0) a121
        refine hKK.out _ _ (by exact hS128) (fun hHeld => ?_)
        clear hKK KK l118 a121 hb123 hs124
        (try simp only [Act.put, List.setIfInBounds_toArray, List.set_cons_zero, List.set_cons_succ])
        refine wpAnyH_ready (rs := [1]) (by kernel_rfl) (by simp) ?_
        refine next_at (i := 1) rfl (fun KK hKK => ?_) AllReadyH.nil
        · refine step_call rfl 101 #[.agg #[.slice (some ⟨r, 0, none⟩) 1 1]] (by go_simp) _ (HORD.out w117 L119.out) ?_
          rintro v141 w129 ⟨l130, gp134, c135, cs136, rfl, hc137, hge138, hg139, hz140⟩
          have HC143 := Lib.hid hc137
          have GP142 := Lib.hid hg139; have GZ143 := Lib.hid hz140
          have L131 := Lib.hid (L119.out.trans (l130.mono L119.out.size)); have a133 := l130.some A120.out; have A132 := Lib.hid a133
          have M144 := Lib.hid (l130.some M127.out)
          have hS145 := cell_of (j := 0) a133
          refine hKK.out _ _ (by exact hS145) (fun hHeld => ?_)
          clear hKK KK l130 a133 hc137 hge138 hg139 hz140
          (try simp only [Act.put, List.setIfInBounds_toArray, List.set_cons_zero, List.set_cons_succ])
          refine take_at (i := 7) (v := ?_) rfl (by kernel_rfl) (by kernel_rfl) (by kernel_rfl) (fun _ _ _ h => h) (by rfl) ?_ (by assumption) ?_
          rotate_left
          · intro w' hSw; have s0 := hSw; go_simp; (try with_reducible rfl)
          (try simp only [Act.put, List.setIfInBounds_toArray, List.set_cons_zero, List.set_cons_succ])
          refine wpAnyH_ready (rs := [8]) (by kernel_rfl) (by simp) ?_
          refine next_at (i := 8) rfl (fun KK hKK => ?_) AllReadyH.nil
          go_simp
          have lb : Low w129.heap.size w129 (w129.alloc (.cells #[.slice (some ⟨gp134, 0, none⟩) 1 c135, .map (some b81), .slice (some ⟨b122, 0, none⟩) 1 1] 189)) := (Low.refl _ _).alloc (Nat.le_refl _) _
          have LB := Lib.hid lb
          have hSb := cell_of (j := 0) (lb.some A132.out)
          refine hKK.out _ _ (by exact hSb) (fun hHeld => ?_)
          clear hKK KK lb
          (try simp only [Act.put, List.setIfInBounds_toArray, List.set_cons_zero, List.set_cons_succ])
          refine take_at (i := 9) (v := ?_) rfl (by kernel_rfl) (by kernel_rfl) (by kernel_rfl) (fun _ _ _ h => h) (by rfl) ?_ (by assumption) ?_
          rotate_left
          · intro w' hSw; have s0 := hSw; go_simp; (try with_reducible rfl)
          (try simp only [Act.put, List.setIfInBounds_toArray, List.set_cons_zero, List.set_cons_succ])
          refine wpAnyH_done (by kernel_rfl) ?_ _
          refine NoPanic.normal ?_
          (try go_wp2_with fail)
          go_meet
          exact ⟨w129.heap.size, gp134, c135, cs136, b81, b122, rfl, L131.out.trans (LB.out.mono L131.out.size), L131.out.size, HS85.out, heap_new w129 _, LB.out.some M144.out, LB.out.some GP142.out, GZ143.out, HC143.out⟩
    · obtain ⟨wd146, hwd147⟩ : ∃ u, u = w1.drew := ⟨_, rfl⟩
      have ld148 : Low w1.heap.size w1 wd146 := hwd147 ▸ (Low.refl _ w1).drew
      rw [← hwd147]
      clear hwd147
      have LD149 := Lib.hid (LZ.out.trans (ld148.mono LZ.out.size)); have AD150 := Lib.hid (ld148.some A1.out)
      clear ld148
      go_simp
      have l152 : Low wd146.heap.size wd146 (wd146.alloc (.cells #[.slice none 0 0] 22)) := (Low.refl _ _).alloc (Nat.le_refl _) _
      have hb157 := heap_new wd146 (.cells #[.slice none 0 0] 22)
      have hs158 := LD149.out.size
      obtain ⟨b156, hqb156⟩ : ∃ t, t = wd146.heap.size := ⟨_, rfl⟩
      rw [← hqb156] at hb157 hs158 ⊢
      clear hqb156
      generalize wd146.alloc (.cells #[.slice none 0 0] 22) = w151 at l152 hb157 ⊢
      have M159 := Lib.hid hb157; have HS160 := Lib.hid hs158
      have L153 := Lib.hid (LD149.out.trans (l152.mono LD149.out.size)); have a155 := l152.some AD150.out; have A154 := Lib.hid a155
      have hS161 := cell_of (j := 0) a155
      refine hKK.out _ _ (by exact hS161) (fun hHeld => ?_)
      clear hKK KK l152 a155 hb157 hs158
      (try simp only [Act.put, List.setIfInBounds_toArray, List.set_cons_zero, List.set_cons_succ])
      refine wpAnyH_ready (rs := [1, 2]) (by kernel_rfl) (by simp) ?_
      refine next_at (i := 1) rfl (fun KK hKK => ?_) (next_at (i := 2) rfl (fun KK hKK => ?_) AllReadyH.nil)
      · refine step_call rfl 101 #[.agg #[.slice (some ⟨r, 0, none⟩) 1 1]] (by go_simp) _ (HORD.out w151 L153.out) ?_
        rintro v174 w162 ⟨l163, gp167, c168, cs169, rfl, hc170, hge171, hg172, hz173⟩
        have HC176 := Lib.hid hc170
        have GP175 := Lib.hid hg172; have GZ176 := Lib.hid hz173
        have L164 := Lib.hid (L153.out.trans (l163.mono L153.out.size)); have a166 := l163.some A154.out; have A165 := Lib.hid a166
        have hS177 := cell_of (j := 0) a166
        refine hKK.out _ _ (by exact hS177) (fun hHeld => ?_)
        clear hKK KK l163 a166 hc170 hge171 hg172 hz173
        (try simp only [Act.put, List.setIfInBounds_toArray, List.set_cons_zero, List.set_cons_succ])
        refine wpAnyH_ready (rs := [2]) (by kernel_rfl) (by simp) ?_
        refine next_at (i := 2) rfl (fun KK hKK => ?_) AllReadyH.nil
        · go_simp
          have l179 : Low w162.heap.size w162 (w162.alloc (.map #[] 0)) := (Low.refl _ _).alloc (Nat.le_refl _) _
          have hb184 := heap_new w162 (.map #[] 0)
          have hs185 := L164.out.size
          obtain ⟨b183, hqb183⟩ : ∃ t, t = w162.heap.size := ⟨_, rfl⟩
          rw [← hqb183] at hb184 hs185 ⊢
          clear hqb183
          generalize w162.alloc (.map #[] 0) = w178 at l179 hb184 ⊢
          have M186 := Lib.hid hb184; have HS187 := Lib.hid hs185
          have L180 := Lib.hid (L164.out.trans (l179.mono L164.out.size)); have a182 := l179.some A165.out; have A181 := Lib.hid a182
          have GP188 := Lib.hid (l179.some GP175.out)
          have hS189 := cell_of (j := 0) a182
          refine hKK.out _ _ (by exact hS189) (fun hHeld => ?_)
          clear hKK KK l179 a182 hb184 hs185
          (try simp only [Act.put, List.setIfInBounds_toArray, List.set_cons_zero, List.set_cons_succ])
          refine take_at (i := 7) (v := ?_) rfl (by kernel_rfl) (by kernel_rfl) (by kernel_rfl) (fun _ _ _ h => h) (by rfl) ?_ (by assumption) ?_
          rotate_left
          · intro w' hSw; have s0 := hSw; go_simp; (try with_reducible rfl)
          (try simp only [Act.put, List.setIfInBounds_toArray, List.set_cons_zero, List.set_cons_succ])
          refine wpAnyH_ready (rs := [8]) (by kernel_rfl) (by simp) ?_
          refine next_at (i := 8) rfl (fun KK hKK => ?_) AllReadyH.nil
          go_simp
          have lb : Low w178.heap.size w178 (w178.alloc (.cells #[.slice (some ⟨gp167, 0, none⟩) 1 c168, .map (some b183), .slice (some ⟨b156, 0, none⟩) 1 1] 189)) := (Low.refl _ _).alloc (Nat.le_refl _) _
          have LB := Lib.hid lb
          have hSb := cell_of (j := 0) (lb.some A181.out)
          refine hKK.out _ _ (by exact hSb) (fun hHeld => ?_)
          clear hKK KK lb
          (try simp only [Act.put, List.setIfInBounds_toArray, List.set_cons_zero, List.set_cons_succ])
          refine take_at (i := 9) (v := ?_) rfl (by kernel_rfl) (by kernel_rfl) (by kernel_rfl) (fun _ _ _ h => h) (by rfl) ?_ (by assumption) ?_
          rotate_left
          · intro w' hSw; have s0 := hSw; go_simp; (try with_reducible rfl)
          (try simp only [Act.put, List.setIfInBounds_toArray, List.set_cons_zero, List.set_cons_succ])
          refine wpAnyH_done (by kernel_rfl) ?_ _
          refine NoPanic.normal ?_
          (try go_wp2_with fail)
          go_meet
          exact ⟨w178.heap.size, gp167, c168, cs169, b183, b156, rfl, L180.out.trans (LB.out.mono L180.out.size), L180.out.size, HS187.out, heap_new w178 _, LB.out.some M186.out, LB.out.some GP188.out, GZ176.out, HC176.out⟩
      · go_simp
        have l191 : Low w151.heap.size w151 (w151.alloc (.map #[] 0)) := (Low.refl _ _).alloc (Nat.le_refl _) _
        have hb196 := heap_new w151 (.map #[] 0)
        have hs197 := L153.out.size
        obtain ⟨b195, hqb195⟩ : ∃ t, t = w151.heap.size := ⟨_, rfl⟩
        rw [← hqb195] at hb196 hs197 ⊢
        clear hqb195
        generalize w151.alloc (.map #[] 0) = w190 at l191 hb196 ⊢
        have M198 := Lib.hid hb196; have HS199 := Lib.hid hs197
        have L192 := Lib.hid (L153.out.trans (l191.mono L153.out.size)); have a194 := l191.some A154.out; have A193 := Lib.hid a194
        have hS200 := cell_of (j := 0) a194
        refine hKK.out _ _ (by exact hS200) (fun hHeld => ?_)
        clear hKK KK l191 a194 hb196 hs197
        (try simp only [Act.put, List.setIfInBounds_toArray, List.set_cons_zero, List.set_cons_succ])
        refine wpAnyH_ready (rs := [1]) (by kernel_rfl) (by simp) ?_
        refine next_at (i := 1) rfl (fun KK hKK => ?_) AllReadyH.nil
        · refine step_call rfl 101 #[.agg #[.slice (some ⟨r, 0, none⟩) 1 1]] (by go_simp) _ (HORD.out w190 L192.out) ?_
          rintro v213 w201 ⟨l202, gp206, c207, cs208, rfl, hc209, hge210, hg211, hz212⟩
          have HC215 := Lib.hid hc209
          have GP214 := Lib.hid hg211; have GZ215 := Lib.hid hz212
          have L203 := Lib.hid (L192.out.trans (l202.mono L192.out.size)); have a205 := l202.some A193.out; have A204 := Lib.hid a205
          have M216 := Lib.hid (l202.some M198.out)
          have hS217 := cell_of (j := 0) a205
          refine hKK.out _ _ (by exact hS217) (fun hHeld => ?_)
          clear hKK KK l202 a205 hc209 hge210 hg211 hz212
          (try simp only [Act.put, List.setIfInBounds_toArray, List.set_cons_zero, List.set_cons_succ])
          refine take_at (i := 7) (v := ?_) rfl (by kernel_rfl) (by kernel_rfl) (by kernel_rfl) (fun _ _ _ h => h) (by rfl) ?_ (by assumption) ?_
          rotate_left
          · intro w' hSw; have s0 := hSw; go_simp; (try with_reducible rfl)
          (try simp only [Act.put, List.setIfInBounds_toArray, List.set_cons_zero, List.set_cons_succ])
          refine wpAnyH_ready (rs := [8]) (by kernel_rfl) (by simp) ?_
          refine next_at (i := 8) rfl (fun KK hKK => ?_) AllReadyH.nil
          go_simp
          have lb : Low w201.heap.size w201 (w201.alloc (.cells #[.slice (some ⟨gp206, 0, none⟩) 1 c207, .map (some b195), .slice (some ⟨b156, 0, none⟩) 1 1] 189)) := (Low.refl _ _).alloc (Nat.le_refl _) _
          have LB := Lib.hid lb
          have hSb := cell_of (j := 0) (lb.some A204.out)
          refine hKK.out _ _ (by exact hSb) (fun hHeld => ?_)
          clear hKK KK lb
          (try simp only [Act.put, List.setIfInBounds_toArray, List.set_cons_zero, List.set_cons_succ])
          refine take_at (i := 9) (v := ?_) rfl (by kernel_rfl) (by kernel_rfl) (by kernel_rfl) (fun _ _ _ h => h) (by rfl) ?_ (by assumption) ?_
          rotate_left
          · intro w' hSw; have s0 := hSw; go_simp; (try with_reducible rfl)
          (try simp only [Act.put, List.setIfInBounds_toArray, List.set_cons_zero, List.set_cons_succ])
          refine wpAnyH_done (by kernel_rfl) ?_ _
          refine NoPanic.normal ?_
          (try go_wp2_with fail)
          go_meet
          exact ⟨w201.heap.size, gp206, c207, cs208, b195, b156, rfl, L203.out.trans (LB.out.mono L203.out.size), L203.out.size, HS199.out, heap_new w201 _, LB.out.some M216.out, LB.out.some GP214.out, GZ215.out, HC215.out⟩
  case rest =>
    obtain ⟨v, gp, c, cs, m, q, rfl, l2, hv, hm, f2, m2, g2, h0, hc⟩ := hcut
    obtain ⟨w2, rfl⟩ : ∃ u, u = wc := ⟨_, rfl⟩
    have hmv : m ≠ v := by
      rintro rfl
      rw [m2] at f2; cases f2
    have hmg : m ≠ gp := by
      rintro rfl
      rw [m2] at g2; cases g2
    obtain ⟨es, cl, hmu, _⟩ := update_i (P := Tryz.prog) (t := 53) Tryz.underlying53 Tryz.underlying3 (show IMap w2 m [] from ⟨#[], 0, m2, ents_nil⟩) (k := 0) (.int .i64 0)
    have y0 : w2.cell? ⟨v, 0, none⟩ = some (.slice (some ⟨gp, 0, none⟩) 1 c) := cell_of f2
    have y1 : w2.cell? ⟨v, 1, none⟩ = some (.map (some m)) := cell_of f2
    have yg : w2.cell? ⟨gp, 0, none⟩ = some (.int .i64 0) := (cell_of g2).trans h0
    have a2 := l2.some A1.out; have r2 := l2.some R1.out
    have hc3 := Chs.setBlock (B := [m]) w2 (List.mem_singleton.2 rfl) (.map es cl)
    have hnm : ∀ {b : Nat} {cs : Array Value} {e : TypeId} {fr : Nat × Nat}, w2.heap[b]? = some (.cells cs e fr) → b ∉ [m] := fun {b cs e fr} hb hq => by
      rw [List.mem_singleton] at hq
      subst hq
      rw [m2] at hb; cases hb
    have a3 := hc3.obj a2 (hnm a2); have r3 := hc3.obj r2 (hnm r2); have f3 := hc3.obj f2 (hnm f2)
    have l3 : Low w.heap.size w (Go.ChangeMaps.setBlock w2 m (.map es cl)) := L1.out.trans ((l2.trans (hc3.low (by intro b hb; rw [List.mem_singleton] at hb; omega) l2.size)).mono L1.out.size)
    have y3 : (Go.ChangeMaps.setBlock w2 m (.map es cl)).cell? ⟨t1, 0, none⟩ = some (.slice (some ⟨r, 0, none⟩) 1 1) := cell_of a3
    have yr : (Go.ChangeMaps.setBlock w2 m (.map es cl)).cell? ⟨r, 0, none⟩ = some (.slice none 0 0) := cell_of r3
    have L3 := Lib.hid l3; have F3 := Lib.hid f3; have HC := Lib.hid hc
    clear hmv hmg a2 r2 hc3 a3 r3 f3 l3 f2 m2 g2 h0 hnm l2 hv hm hc
    go_wp2_with fail
    go_loopw [22] (fun i wr => (i = .int .i64 0 ∧ wr = w2) ∨ (i = .int .i64 1 ∧ wr = Go.ChangeMaps.setBlock w2 m (.map es cl))) (fun i _ => 1 - (intOf i).toNat)
    case atStart => exact .inl ⟨rfl, rfl⟩
    case round =>
      rcases hrel with ⟨rfl, rfl⟩ | ⟨rfl, rfl⟩
      · obtain ⟨w2, rfl⟩ : ∃ u, u = wr := ⟨_, rfl⟩
        go_upto_region 6 with fail
        clear hmu y0 y1 yg
        obtain ⟨w3, hw3⟩ : ∃ u, u = Go.ChangeMaps.setBlock w2 m (.map es cl) := ⟨_, rfl⟩
        rw [← hw3] at L3 F3 y3 yr ⊢
        have HW3 := Lib.hid hw3
        clear hw3
        go_wp2_with fail
        go_loopw [39] (fun i wr => i = .int .i64 0 ∧ wr = w3) (fun _ _ => 0)
        case atStart => exact ⟨rfl, rfl⟩
        case round =>
          obtain ⟨rfl, rfl⟩ := hrel
          go_wp2_with fail
          exact ⟨.inr ⟨rfl, HW3.out⟩, by decide⟩
      · generalize Go.ChangeMaps.setBlock w2 m (.map es cl) = w3 at L3 F3 y3 yr ⊢
        go_wp2_with fail
        go_ret
        exact ⟨L3.out, v, gp, c, _, _, rfl, F3.out, HC.out⟩
end Go.Proofs.YtnjdegjpmbdboaaGreat
