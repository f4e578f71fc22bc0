/- isa.Valid, of one form of instruction. -/
import Derived.Test.YtjkaoejcdboaiaaGreatV0
import Derived.Test.YtjkaoejcdboaiaaGreatS8
set_option linter.unusedSimpArgs false
set_option linter.unusedVariables false
set_option linter.unusedSectionVars false
namespace Go.Proofs.YtjkaoejcdboaiaaGreat
open Go.RowKit Go.Eng
set_option linter.unusedVariables false
set_option linter.unusedSectionVars false
set_option maxRecDepth 100000

set_option maxHeartbeats 8000000 in
theorem valid_short (w : World) (n d b : Nat) (o0 : 48 ≤ n) (o1 : n ≤ 62) (hd : d < 8) (hb : b < 256) :
    Calls Tryz.prog 72 #[insV n d 0 (extP b) 0 0 3] w (fun e' w' => e' = .returned (.bool true) ∧ Low w.heap.size w w') := by
  obtain ⟨hk, hz⟩ := kind_short n (by omega) (by omega) (by omega)
  have hwr : IntKind.u8.wrap (n : Int) = n := Go.IntWalk.u8_in _ (by omega)
  have hx := (ext_all b hb).1
  have ha := InsAt.new w n d 0 (extP b) 0 0 3
  have l0 : Low w.heap.size w (w.alloc (insC n d 0 (extP b) 0 0 3)) := (Low.refl _ _).alloc (Nat.le_refl _) _
  go_enter Tryz.func72, Tryz.ntmps72
  go_upto_region 1 with fail
  obtain ⟨t1, ht1⟩ : ∃ t, t = w.heap.size := ⟨_, rfl⟩
  rw [← ht1] at ha ⊢
  have HT := Lib.hid ht1
  clear ht1
  generalize w.alloc (insC n d 0 (extP b) 0 0 3) = w0 at l0 ha ⊢
  have L0 := Lib.hid l0
  have H0 := Lib.hid ha
  obtain ⟨y0, y1, y2, y3, y4, y5, y6⟩ := ha
  have hfo := formatOf_low (op := n) (by omega) (fmt_short n (by omega) (by omega) (by omega)) w0
  clear l0
  go_upto_region 2 with (first
    | (go_at_call 75
       refine hfo.mono ?_
       rintro e' wf ⟨rfl, lf⟩
       have lt : Low wf.heap.size wf (wf.alloc (.cells #[.int .i64 2, .int .i64 5, .int .i64 0, .int .i64 0] 176)) := (Low.refl _ _).alloc (Nat.le_refl _) _
       have at3 := heap_new wf (.cells #[.int .i64 2, .int .i64 5, .int .i64 0, .int .i64 0] 176)
       have LF := Lib.hid lf
       clear lf))
  clear y0 y1 y2 y3 y4 y5 y6 hfo
  obtain ⟨t3, ht3⟩ : ∃ t, t = wf.heap.size := ⟨_, rfl⟩
  rw [← ht3] at at3 ⊢
  have HT3 := Lib.hid ht3
  clear ht3
  generalize wf.alloc (.cells #[.int .i64 2, .int .i64 5, .int .i64 0, .int .i64 0] 176) = w1 at lt at3 ⊢
  have L1 := Lib.hid (L0.out.trans ((LF.out.trans (lt.mono LF.out.size)).mono L0.out.size))
  have H1 := Lib.hid (H0.out.low (LF.out.trans (lt.mono LF.out.size)))
  have AT3 := Lib.hid at3
  have HX : Hid (∀ w', Low w1.heap.size w1 w' → InsAt t1 n d 0 (extP b) 0 0 3 w' ∧ w'.cell? ⟨t3, 0, none⟩ = some (.int .i64 2) ∧ w'.cell? ⟨t3, 1, none⟩ = some (.int .i64 5) ∧ w'.cell? ⟨t3, 2, none⟩ = some (.int .i64 0) ∧ w'.cell? ⟨t3, 3, none⟩ = some (.int .i64 0)) :=
    Lib.hid fun w' l => ⟨H1.out.low l, cell_of (l.some AT3.out), cell_of (l.some AT3.out), cell_of (l.some AT3.out), cell_of (l.some AT3.out)⟩
  clear lt at3
  obtain ⟨⟨y0, y1, y2, y3, y4, y5, y6⟩, g0, g1, g2, g3⟩ := HX.out _ (Low.refl _ _)
  have l2 : Low w1.heap.size w1 (w1.alloc (.cells #[.int .u8 n] 5)) := (Low.refl _ _).alloc (Nat.le_refl _) _
  have o2 : BytesO (w1.alloc (.cells #[.int .u8 n] 5)) w1.heap.size (some ⟨w1.heap.size, 0, none⟩) 1 1 [(n : Int)] := BytesO.new (Nat.le_refl _) (heap_new w1 _) Nat.zero_lt_one (show 1 ≤ 1000 by omega)
  have L2 := Lib.hid l2
  have O2 := Lib.hid o2
  obtain ⟨_, x0, x1, x2, x3⟩ := HX.out _ l2
  clear l2 o2
  go_wp2_with fail
  clear y0 y1 y2 y3 y4 y5 y6 g0 g1 g2 g3 x0 x1 x2 x3
  go_loopw [5, 21] (fun s i wr => (i = .int .i64 0 ∧ (∃ A c, s = .slice A 1 c ∧ BytesO wr w1.heap.size A 1 c [(n : Int)] ∧ Low w1.heap.size w1 wr)) ∨ (i = .int .i64 1 ∧ (∃ A c, s = .slice A 2 c ∧ BytesO wr w1.heap.size A 2 c [(n : Int), (d : Int)] ∧ Low w1.heap.size w1 wr)) ∨ (i = .int .i64 2 ∧ (∃ A c, s = .slice A 3 c ∧ BytesO wr w1.heap.size A 3 c [(n : Int), (d : Int), extP b % 256] ∧ Low w1.heap.size w1 wr)) ∨ (i = .int .i64 3 ∧ (∃ A c, s = .slice A 3 c ∧ BytesO wr w1.heap.size A 3 c [(n : Int), (d : Int), extP b % 256] ∧ Low w1.heap.size w1 wr)) ∨ (i = .int .i64 4 ∧ (∃ A c, s = .slice A 3 c ∧ BytesO wr w1.heap.size A 3 c [(n : Int), (d : Int), extP b % 256] ∧ Low w1.heap.size w1 wr))) (fun _ i _ => 4 - (intOf i).toNat)
  case atStart => exact .inl ⟨rfl, _, _, rfl, O2.out, L2.out⟩
  case round =>
    obtain ⟨wv, rfl⟩ : ∃ u, u = wr := ⟨_, rfl⟩
    have j0 := index_0; have j1 := index_1; have j2 := index_2; have j3 := index_3
    rcases hrel with ⟨rfl, hR⟩ | ⟨rfl, hR⟩ | ⟨rfl, hR⟩ | ⟨rfl, hR⟩ | ⟨rfl, hR⟩
    · obtain ⟨A, c, rfl, hO, hL⟩ := hR
      obtain ⟨v0, v1, v2, v3, v4, v5, v6⟩ := (HX.out _ hL).1
      have hf := fits_2 wv n d 0 (extP b) 3 (by omega) (by omega)
      have HO := Lib.hid hO; have HL := Lib.hid hL
      clear hO hL
      go_wp2_with (first
        | (go_at_call 89
           refine hf.mono ?_
           rintro e' w3 ⟨rfl, l3⟩
           have L3 := Lib.hid (HL.out.trans (l3.mono HL.out.size))
           have O3 := Lib.hid (HO.out.low l3)
           obtain ⟨u0, u1, u2, u3, u4, u5, u6⟩ := (HX.out _ L3.out).1
           clear l3)
        | (go_at_call 90
           refine (put_2 w3 n d 0 (extP b) 3 (by omega) (by omega)).mono ?_
           rintro e' w4 ⟨g, rfl, ag, l4⟩
           have L4 := Lib.hid (L3.out.trans (l4.mono L3.out.size))
           obtain ⟨A', c', w5, hrun, ho, hl, _⟩ := app_bytes (O3.out.low l4) (ys := [(d : Int)]) (m := 1) (d := 1) (k := 2) ag rfl rfl (by omega) L4.out.size
           have O5 := Lib.hid ho
           have L5 := Lib.hid (L4.out.trans hl)
           clear l4 ag ho hl)
        | (at_builtin; refine wpList_known rfl (.tmp 28) (.tmp 31) rfl rfl rfl hrun ?_))
      exact ⟨.inr (.inl ⟨rfl, _, _, rfl, O5.out, L5.out⟩), by decide⟩
    · obtain ⟨A, c, rfl, hO, hL⟩ := hR
      obtain ⟨v0, v1, v2, v3, v4, v5, v6⟩ := (HX.out _ hL).1
      have hf := fits_5 wv n d 0 3 b hb
      have HO := Lib.hid hO; have HL := Lib.hid hL
      clear hO hL
      go_wp2_with (first
        | (go_at_call 89
           refine hf.mono ?_
           rintro e' w3 ⟨rfl, l3⟩
           have L3 := Lib.hid (HL.out.trans (l3.mono HL.out.size))
           have O3 := Lib.hid (HO.out.low l3)
           obtain ⟨u0, u1, u2, u3, u4, u5, u6⟩ := (HX.out _ L3.out).1
           clear l3)
        | (go_at_call 90
           refine (put_5 w3 n d 0 (extP b) 3).mono ?_
           rintro e' w4 ⟨g, rfl, ag, l4⟩
           have L4 := Lib.hid (L3.out.trans (l4.mono L3.out.size))
           obtain ⟨A', c', w5, hrun, ho, hl, _⟩ := app_bytes (O3.out.low l4) (ys := [extP b % 256]) (m := 1) (d := 1) (k := 3) ag rfl rfl (by omega) L4.out.size
           have O5 := Lib.hid ho
           have L5 := Lib.hid (L4.out.trans hl)
           clear l4 ag ho hl)
        | (at_builtin; refine wpList_known rfl (.tmp 28) (.tmp 31) rfl rfl rfl hrun ?_))
      exact ⟨.inr (.inr (.inl ⟨rfl, _, _, rfl, O5.out, L5.out⟩)), by decide⟩
    · obtain ⟨A, c, rfl, hO, hL⟩ := hR
      obtain ⟨v0, v1, v2, v3, v4, v5, v6⟩ := (HX.out _ hL).1
      have hf := fits_0 wv n d 0 (extP b) 3
      have HO := Lib.hid hO; have HL := Lib.hid hL
      clear hO hL
      go_wp2_with (first
        | (go_at_call 89
           refine hf.mono ?_
           rintro e' w3 ⟨rfl, l3⟩
           have L3 := Lib.hid (HL.out.trans (l3.mono HL.out.size))
           have O3 := Lib.hid (HO.out.low l3)
           obtain ⟨u0, u1, u2, u3, u4, u5, u6⟩ := (HX.out _ L3.out).1
           clear l3)
        | (go_at_call 90
           refine (put_0 w3 n d 0 (extP b) 3).mono ?_
           rintro e' w4 ⟨rfl, l4⟩
           have L4 := Lib.hid (L3.out.trans (l4.mono L3.out.size))
           have O4 := Lib.hid (O3.out.low l4)
           have hrun := app_nil O4.out
           clear l4)
        | (at_builtin; refine wpList_known rfl (.tmp 28) (.tmp 31) rfl rfl rfl hrun ?_))
      exact ⟨.inr (.inr (.inr (.inl ⟨rfl, _, _, rfl, O4.out, L4.out⟩))), by decide⟩
    · obtain ⟨A, c, rfl, hO, hL⟩ := hR
      obtain ⟨v0, v1, v2, v3, v4, v5, v6⟩ := (HX.out _ hL).1
      have hf := fits_0 wv n d 0 (extP b) 3
      have HO := Lib.hid hO; have HL := Lib.hid hL
      clear hO hL
      go_wp2_with (first
        | (go_at_call 89
           refine hf.mono ?_
           rintro e' w3 ⟨rfl, l3⟩
           have L3 := Lib.hid (HL.out.trans (l3.mono HL.out.size))
           have O3 := Lib.hid (HO.out.low l3)
           obtain ⟨u0, u1, u2, u3, u4, u5, u6⟩ := (HX.out _ L3.out).1
           clear l3)
        | (go_at_call 90
           refine (put_0 w3 n d 0 (extP b) 3).mono ?_
           rintro e' w4 ⟨rfl, l4⟩
           have L4 := Lib.hid (L3.out.trans (l4.mono L3.out.size))
           have O4 := Lib.hid (O3.out.low l4)
           have hrun := app_nil O4.out
           clear l4)
        | (at_builtin; refine wpList_known rfl (.tmp 28) (.tmp 31) rfl rfl rfl hrun ?_))
      exact ⟨.inr (.inr (.inr (.inr (⟨rfl, _, _, rfl, O4.out, L4.out⟩)))), by decide⟩
    · obtain ⟨A, c, rfl, hO, hL⟩ := hR
      have HO := Lib.hid hO; have HL := Lib.hid hL
      have HZ : Hid (∀ w', Low wv.heap.size wv w' → InsAt t1 n d 0 (extP b) 0 0 3 w' ∧ (w'.cell? ⟨t3, 0, none⟩ = some (.int .i64 2) ∧ w'.cell? ⟨t3, 1, none⟩ = some (.int .i64 5) ∧ w'.cell? ⟨t3, 2, none⟩ = some (.int .i64 0) ∧ w'.cell? ⟨t3, 3, none⟩ = some (.int .i64 0)) ∧ (convert 124 9 (.slice A 3 c)).run Tryz.prog w' = .ok (.string (strB [(n : Int), (d : Int), extP b % 256])) w') := Lib.hid fun w' l => ⟨(HX.out _ (HL.out.trans (l.mono HL.out.size))).1, (HX.out _ (HL.out.trans (l.mono HL.out.size))).2, (HO.out.low l).conv (by omega)⟩
      clear hO hL
      go_upto_region 12 with fail
      have ld : Low wv.heap.size wv wv.drew := (Low.refl _ _).drew
      have hSd := HZ.out _ ld
      have HLd := Lib.hid ld
      clear ld
      refine wp_region_noPanic ?_
      refine wp_region_held_drew (S := fun w' => InsAt t1 n d 0 (extP b) 0 0 3 w' ∧ (w'.cell? ⟨t3, 0, none⟩ = some (.int .i64 2) ∧ w'.cell? ⟨t3, 1, none⟩ = some (.int .i64 5) ∧ w'.cell? ⟨t3, 2, none⟩ = some (.int .i64 0) ∧ w'.cell? ⟨t3, 3, none⟩ = some (.int .i64 0)) ∧ (convert 124 9 (.slice A 3 c)).run Tryz.prog w' = .ok (.string (strB [(n : Int), (d : Int), extP b % 256])) w') (by kernel_rfl) (by exact hSd) (fun hHeld => ?_)
      generalize wv.drew = wd at hHeld hSd HLd ⊢
      refine take_at (i := 0) (v := ?_) rfl (by kernel_rfl) (by kernel_rfl) (by kernel_rfl) (fun _ _ _ h => h) (by rfl) ?_ (by exact hHeld) ?_
      rotate_left
      · intro w' hSw; obtain ⟨⟨y0, y1, y2, y3, y4, y5, y6⟩, ⟨g0, g1, g2, g3⟩, hcv⟩ := hSw; go_simp; (try with_reducible rfl)
      (try simp only [Act.put, List.setIfInBounds_toArray, List.set_cons_zero, List.set_cons_succ])
      refine take_at (i := 1) (v := ?_) rfl (by kernel_rfl) (by kernel_rfl) (by kernel_rfl) (fun _ _ _ h => h) (by rfl) ?_ (by exact hHeld) ?_
      rotate_left
      · intro w' hSw; obtain ⟨⟨y0, y1, y2, y3, y4, y5, y6⟩, ⟨g0, g1, g2, g3⟩, hcv⟩ := hSw; go_simp; (try with_reducible rfl)
      (try simp only [Act.put, List.setIfInBounds_toArray, List.set_cons_zero, List.set_cons_succ])
      refine take_at (i := 2) (v := ?_) rfl (by kernel_rfl) (by kernel_rfl) (by kernel_rfl) (fun _ _ _ h => h) (by rfl) ?_ (by exact hHeld) ?_
      rotate_left
      · intro w' hSw; obtain ⟨⟨y0, y1, y2, y3, y4, y5, y6⟩, ⟨g0, g1, g2, g3⟩, hcv⟩ := hSw; go_simp; (try with_reducible rfl)
      (try simp only [Act.put, List.setIfInBounds_toArray, List.set_cons_zero, List.set_cons_succ])
      refine take_at (i := 4) (v := ?_) rfl (by kernel_rfl) (by kernel_rfl) (by kernel_rfl) (fun _ _ _ h => h) (by rfl) ?_ (by exact hHeld) ?_
      rotate_left
      · intro w' hSw; obtain ⟨⟨y0, y1, y2, y3, y4, y5, y6⟩, ⟨g0, g1, g2, g3⟩, hcv⟩ := hSw; go_simp; (try with_reducible rfl)
      (try simp only [Act.put, List.setIfInBounds_toArray, List.set_cons_zero, List.set_cons_succ])
      have hrd := read_short wd (strB [(n : Int), (d : Int), extP b % 256]) n d b (by rw [strB_size]; simp) (strB_at (v := n) (by rw [strB_size]; simp) (by simp) (by omega)) (strB_at (v := d) (by rw [strB_size]; simp) (by simp) (by omega)) (strB_at (v := b) (by rw [strB_size]; simp) (by simp [hx]) (by omega)) o0 o1 hd
      refine wpAnyH_ready (rs := [3]) (by kernel_rfl) (by simp) ?_
      refine next_at (i := 3) rfl (fun KK hKK => ?_) AllReadyH.nil
      refine step_call rfl 77 #[.string (strB [(n : Int), (d : Int), extP b % 256]), .agg #[.int .i64 2, .int .i64 5, .int .i64 0, .int .i64 0]] (by go_simp) (fun v w' => v = insV n d 0 (extP b) 0 0 3 ∧ Low wd.heap.size wd w') (hrd.mono (by rintro e w' ⟨rfl, he⟩; exact ⟨_, rfl, rfl, he⟩)) ?_
      rintro v w6 ⟨rfl, l6⟩
      have L6 := Lib.hid (HLd.out.trans (l6.mono HLd.out.size))
      clear l6 hrd
      have heq := ins_eq n d 0 (extP b) 0 0 3
      refine hKK.out _ _ (by exact (HZ.out _ L6.out)) (fun hHeld => ?_)
      clear hKK KK
      (try simp only [Act.put, List.setIfInBounds_toArray, List.set_cons_zero, List.set_cons_succ])
      refine take_at (i := 5) (v := ?_) rfl (by kernel_rfl) (by kernel_rfl) (by kernel_rfl) (fun _ _ _ h => h) (by rfl) ?_ (by exact hHeld) ?_
      rotate_left
      · intro w' hSw; obtain ⟨⟨y0, y1, y2, y3, y4, y5, y6⟩, ⟨g0, g1, g2, g3⟩, hcv⟩ := hSw; go_simp; (try with_reducible rfl)
      (try simp only [Act.put, List.setIfInBounds_toArray, List.set_cons_zero, List.set_cons_succ])
      refine take_at (i := 6) (v := ?_) rfl (by kernel_rfl) (by kernel_rfl) (by kernel_rfl) (fun _ _ _ h => h) (by rfl) ?_ (by exact hHeld) ?_
      rotate_left
      · intro w' hSw; obtain ⟨⟨y0, y1, y2, y3, y4, y5, y6⟩, ⟨g0, g1, g2, g3⟩, hcv⟩ := hSw; go_simp; (try with_reducible rfl)
      (try simp only [Act.put, List.setIfInBounds_toArray, List.set_cons_zero, List.set_cons_succ])
      refine wpAnyH_done (by kernel_rfl) ?_ _
      refine NoPanic.normal ?_
      clear hHeld hSd
      go_wp2_with fail
      go_returns
      exact ⟨rfl, L1.out.trans ((HL.out.trans (L6.out.mono HL.out.size)).mono L1.out.size)⟩

end Go.Proofs.YtjkaoejcdboaiaaGreat
