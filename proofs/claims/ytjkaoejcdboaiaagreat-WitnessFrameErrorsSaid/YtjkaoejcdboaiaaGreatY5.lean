/- Frame, over code without effect on the stack. -/
import Derived.Test.YtjkaoejcdboaiaaGreatY4
set_option linter.unusedSimpArgs false
set_option linter.unusedVariables false
set_option linter.unusedSectionVars false
namespace Go.Proofs.YtjkaoejcdboaiaaGreat
open Go.RowKit Go.Eng
set_option linter.unusedVariables false
set_option linter.unusedSectionVars false
set_option maxRecDepth 100000

theorem make71 (u : World) : (Instr.makeMap 71 none).run Tryz.prog u = .ok (.map (some u.heap.size)) (u.alloc (.map #[] 0)) := by kernel_rfl
theorem make76 (u : World) : (Instr.makeMap 76 none).run Tryz.prog u = .ok (.map (some u.heap.size)) (u.alloc (.map #[] 0)) := by kernel_rfl
theorem Own.cut {w : World} {S e size n c g : Nat} {xs : List Value} (h : Own w S e size (.slice (some ⟨g, 0, none⟩) n c) n xs) : Own w S e size (.slice (some ⟨g, 0, none⟩) 0 c) 0 [] := by
  obtain ⟨h0, h1 | ⟨g', c', cur, h1, h2, h3, h4, h5, h6, h7⟩⟩ := h
  · obtain ⟨e1, _⟩ := h1; cases e1
  · cases h1
    exact ⟨by simp, .inr ⟨_, _, cur, rfl, h2, h3, Nat.zero_le _, h5, h6, by simp⟩⟩
/-- What ends a function's check. -/
def Bad (op d s im au bk sz er K : Int) : Prop :=
  (er ≠ 0 ∧ K = 45) ∨ (er = 0 ∧ op = 134 ∧ K = 41) ∨ (er = 0 ∧ (op = 144 ∨ op = 145) ∧ im = 0 ∧ K = 42) ∨ (er = 0 ∧ op ≠ 134 ∧ op ≠ 144 ∧ op ≠ 145 ∧ effRun op im sz = true ∧ d = 0 ∧ s = 0 ∧ au = 0 ∧ bk = 0 ∧ K = 43)
/-- The framer at a round's head: it has come to one place, with a height of 0. -/
def LI (s5 : Nat) (w5 : World) (b : Nat) (a : Int) (wr : World) : Prop :=
  ∃ (es : Array MapEntry) (c c' wk cw m : Nat), wr.heap[s5 + 1]? = some (frC b s5 (.slice (some ⟨wk, 0, none⟩) 1 cw)) ∧ wr.heap[s5]? = some (.map (es.push ⟨plV a, .agg #[.int .i64 0, .int .i64 (-1), .map (some m)], c'⟩) c) ∧ (∀ e ∈ es.toList, ∃ x, e.key = plV x ∧ x < a) ∧
    wr.heap[m]? = some (.map #[] 0) ∧ Own wr (s5 + 1 + 1) 40 2 (.slice (some ⟨wk, 0, none⟩) 1 cw) 1 (plC a) ∧ Low s5 w5 wr ∧ s5 + 1 + 1 ≤ m
theorem LI.of {s5 b : Nat} {w5 wA wr : World} {a : Int} {es : Array MapEntry} {c : Nat} {work : Value} {m : Nat} (F : wr.heap[s5 + 1]? = some (frC b s5 work)) (G : wr.heap[s5]? = some (.map (es.push ⟨plV a, .agg #[.int .i64 0, .int .i64 (-1), .map (some m)], c⟩) (c + 1))) (hes : ∀ e ∈ es.toList, ∃ x, e.key = plV x ∧ x < a)
    (M : wr.heap[m]? = some (.map #[] 0)) (W : Own wr (s5 + 1 + 1) 40 2 work 1 (plC a)) (hm : s5 + 1 + 1 ≤ m) (KE : Kept (s5 + 1 + 1) (s5 + 1) s5 wA wr) (hA : Low s5 w5 wA) : LI s5 w5 b a wr := by
  rcases W.form with ⟨_, h⟩ | ⟨wk, cw, cs, rfl, h1, h2, h3⟩
  · omega
  · exact ⟨es, _, _, wk, cw, m, F, G, hes, M, W, hA.trans ⟨KE.os, KE.out, KE.size, fun q hq => KE.block q (by omega) (by omega) (by omega)⟩, hm⟩
set_option maxHeartbeats 16000000 in
theorem frame_any (w : World) (b : Nat) (S0 : ByteArray) (hS : S0.size = 4096) (hb : w.heap[b]? = some (.cells #[.string S0] 9 (0, 0))) (n : Nat) (hn : n ≤ 8) (ad op d s im au bk sz er : Nat → Int) (K : Int) (h0 : ad 0 = 16) (hstep : ∀ k, k < n → ad (k + 1) = ad k + sz k) (hrng : ∀ k, k ≤ n → 16 ≤ ad k ∧ ad k ≤ 100)
    (hGI : ∀ k, k < n → GI (op k) (d k) (s k) (im k) (sz k) ∧ au k = 0 ∧ bk k = 0 ∧ er k = 0)
    (hfe : ∀ k, k ≤ n → ∀ u, u.heap[b]? = some (.cells #[.string S0] 9 (0, 0)) → Calls Tryz.prog 21 #[imgV b, plV (ad k)] u (fun e u' => e = .returned (.tuple #[insV (op k) (d k) (s k) (im k) (au k) (bk k) (sz k), .int .i64 (er k)]) ∧ Low u.heap.size u u'))
    (hbad : Bad (op n) (d n) (s n) (im n) (au n) (bk n) (sz n) (er n) K) (hre : ∀ u, u.heap[b]? = some (.cells #[.string S0] 9 (0, 0)) → Calls Tryz.prog 18 #[imgV b, plV 16] u (fun e u' => e = .returned (plV 16) ∧ Low u.heap.size u u')) :
    Calls Tryz.prog 7 #[imgV b, plV 16, .int .i64 1, .int .i64 100] w (fun e w' => e = .returned (.agg #[.int .i64 K, .int .i64 0, .int .u16 (ad n)]) ∧ Low w.heap.size w w') := by
  have HN := Lib.hid hn; have H0 := Lib.hid h0; have HST := Lib.hid hstep; have HRG := Lib.hid hrng; have HGI := Lib.hid hGI; have HFE := Lib.hid hfe; have HBAD := Lib.hid hbad
  clear hn h0 hstep hrng hGI hfe hbad
  obtain ⟨q, hq⟩ : ∃ q, w.heap.size = q := ⟨_, rfl⟩
  obtain ⟨a4, q4, u4⟩ := alloc_at (imgC b) hq
  obtain ⟨a5, q5, u5⟩ := alloc_at (.cells #[.int .i64 0, .int .u16 16] 40) q4
  obtain ⟨a8, q8, u8⟩ := alloc_at (.cells #[.int .i64 0, .int .i64 0, .int .u16 0] 42) q5
  have a4 := u8 _ _ (u5 _ _ a4)
  have a5 := u8 _ _ a5
  have l0 : Low w.heap.size w (((w.alloc (imgC b)).alloc (.cells #[.int .i64 0, .int .u16 16] 40)).alloc (.cells #[.int .i64 0, .int .i64 0, .int .u16 0] 42)) := (((Low.refl _ _).alloc (Nat.le_refl _) _).alloc (by simp) _).alloc (by simp; omega) _
  have HRE := Lib.hid hre; have HB := Lib.hid hb
  clear u4 u5 u8 q4 q5 hre
  go_enter Tryz.func7, Tryz.ntmps7
  go_upto_region 1 with fail
  have HQ := Lib.hid hq
  obtain ⟨t4, ht4⟩ : ∃ t, t = q := ⟨_, rfl⟩
  obtain ⟨t5, ht5⟩ : ∃ t, t = q + 1 := ⟨_, rfl⟩
  obtain ⟨t8, ht8⟩ : ∃ t, t = q + 1 + 1 := ⟨_, rfl⟩
  rw [← ht8] at a8 q8 ⊢
  rw [← ht5] at a5 ⊢
  rw [show (Value.pointer (some { block := q, off := 0 })) = Value.pointer (some { block := t4, off := 0 }) by rw [ht4]]
  rw [← ht4] at a4
  have HT : Hid (w.heap.size ≤ t4 ∧ t4 < t5 ∧ t5 < t8) := Lib.hid (by omega)
  clear ht4 ht5 ht8 hq
  generalize (((w.alloc (imgC b)).alloc (.cells #[.int .i64 0, .int .u16 16] 40)).alloc (.cells #[.int .i64 0, .int .i64 0, .int .u16 0] 42)) = w1 at l0 a4 a5 a8 q8 ⊢
  have L0 := Lib.hid l0
  have A4 := Lib.hid a4; have A5 := Lib.hid a5; have A8 := Lib.hid a8; have Q8 := Lib.hid q8
  have B1 := Lib.hid (l0.some hb)
  obtain ⟨y0, y1, y2, y3, y4⟩ : ImgAt t4 b w1 := ⟨cell_of a4, cell_of a4, cell_of a4, cell_of a4, cell_of a4⟩
  have hch := icheck_any w1 b S0 hS B1.out
  clear l0 a4 a5 a8 q8 hb
  go_upto_region 3 with (first
    | (go_at_call 17; refine hch.mono ?_; rintro e w2 ⟨rfl, l2⟩))
  clear y0 y1 y2 y3 y4 hch
  have L2 := Lib.hid l2
  obtain ⟨y0, y1, y2, y3, y4⟩ : ImgAt t4 b w2 := by
    have := l2.some A4.out
    exact ⟨cell_of this, cell_of this, cell_of this, cell_of this, cell_of this⟩
  obtain ⟨g0, g1⟩ : w2.cell? ⟨t5, 0, none⟩ = some (.int .i64 0) ∧ w2.cell? ⟨t5, 1, none⟩ = some (.int .u16 16) := by
    have := l2.some A5.out
    exact ⟨cell_of this, cell_of this⟩
  have hrs := HRE.out w2 (l2.some B1.out)
  clear l2
  go_upto_region 4 with (first
    | (go_at_call 18
       refine hrs.mono ?_
       rintro e w3 ⟨rfl, l3⟩
       have L3 := Lib.hid (L2.out.trans (l3.mono L2.out.size))
       have h5 := L3.out.some A5.out
       have cz0 := cell_of (j := 0) h5
       have fz0 := free_of (j := 0) h5
       have bz0 := set_blk (i := 0) (v := .int .i64 0) h5
       have cz1 := cell_of (j := 1) bz0
       have fz1 := free_of (j := 1) bz0
       have bz1 := set_blk (i := 1) (v := .int .u16 16) bz0
       clear l3))
  clear y0 y1 y2 y3 y4 g0 g1 hrs cz0 fz0 cz1 fz1 h5
  have T4 : Turned t5 w3 ((w3.setCell ⟨t5, 0, none⟩ (.int .i64 0)).setCell ⟨t5, 1, none⟩ (.int .u16 16)) := (Turned.set _ _ _ _).trans (Turned.set _ _ _ _)
  generalize ((w3.setCell ⟨t5, 0, none⟩ (.int .i64 0)).setCell ⟨t5, 1, none⟩ (.int .u16 16)) = w4 at T4 bz1 ⊢
  have P4 : Hid (w4.heap[t5]? = some (.cells #[.int .i64 0, .int .u16 16] 40 (0, 0))) := bz1
  have I4 : Hid (w4.heap[t4]? = some (imgC b)) := Lib.hid ((T4.block t4 (by have := HT.out; omega)).trans (L3.out.some A4.out))
  have R4 : Hid (w4.heap[t8]? = some (.cells #[.int .i64 0, .int .i64 0, .int .u16 0] 42 (0, 0))) := Lib.hid ((T4.block t8 (by have := HT.out; omega)).trans (L3.out.some A8.out))
  have L4 : Hid (Low w.heap.size w w4) := Lib.hid ((L0.out.trans (L3.out.mono L0.out.size)).trans (T4.low (by have := HT.out; omega)))
  have Z4 : Hid (t8 < w4.heap.size) := Lib.hid (heap_lt R4.out)
  clear bz0 bz1 T4
  obtain ⟨y0, y1, y2, y3, y4⟩ : ImgAt t4 b w4 := ⟨cell_of I4.out, cell_of I4.out, cell_of I4.out, cell_of I4.out, cell_of I4.out⟩
  go_quiet (fail)
  have P5 : Hid ((w4.drewN nq).heap[t5]? = some (.cells #[.int .i64 0, .int .u16 16] 40 (0, 0))) := P4
  have I5 : Hid ((w4.drewN nq).heap[t4]? = some (imgC b)) := I4
  have R5 : Hid ((w4.drewN nq).heap[t8]? = some (.cells #[.int .i64 0, .int .i64 0, .int .u16 0] 42 (0, 0))) := R4
  have L5 : Hid (Low w.heap.size w (w4.drewN nq)) := Lib.hid (L4.out.drewN nq)
  have Z5 : Hid (t8 < (w4.drewN nq).heap.size) := Z4
  clear y0 y1 y2 y3 y4
  generalize w4.drewN nq = w5 at P5 I5 R5 L5 Z5 ⊢
  obtain ⟨s5, hs5⟩ : ∃ s5, w5.heap.size = s5 := ⟨_, rfl⟩
  obtain ⟨ag, qg, ug⟩ := alloc_at (.map #[] 0) hs5
  obtain ⟨aF, qF, uF⟩ := alloc_at (frC b s5 (.slice none 0 0)) qg
  obtain ⟨am, qm, um⟩ := alloc_at (.map #[] 0) qF
  have ag := um _ _ (uF _ _ ag)
  have aF := um _ _ aF
  have lA : Low w5.heap.size w5 (((w5.alloc (.map #[] 0)).alloc (frC b s5 (.slice none 0 0))).alloc (.map #[] 0)) := (((Low.refl _ _).alloc (Nat.le_refl _) _).alloc (by simp) _).alloc (by simp; omega) _
  obtain ⟨y0, y1, y2, y3, y4⟩ : ImgAt t4 b w5 := ⟨cell_of I5.out, cell_of I5.out, cell_of I5.out, cell_of I5.out, cell_of I5.out⟩
  obtain ⟨x0, x1⟩ : ((w5.alloc (.map #[] 0)).alloc (frC b s5 (.slice none 0 0))).cell? ⟨t5, 0, none⟩ = some (.int .i64 0) ∧ ((w5.alloc (.map #[] 0)).alloc (frC b s5 (.slice none 0 0))).cell? ⟨t5, 1, none⟩ = some (.int .u16 16) := by
    have := uF _ _ (ug _ _ P5.out)
    exact ⟨cell_of this, cell_of this⟩
  have hrn := reach_new (((w5.alloc (.map #[] 0)).alloc (frC b s5 (.slice none 0 0))).alloc (.map #[] 0)) (s5 + 1 + 1) (s5 + 1) b s5 (s5 + 1 + 1) 16 #[] 0 (.slice none 0 0) aF ag (fun e he => by cases he) am (Own.nil _ _ _ _) (by omega) (by omega) (by omega) (by rw [qm]; omega)
  have HSS := Lib.hid hs5
  have LA := Lib.hid lA; have QM := Lib.hid qm
  clear ug uF um qg qF qm aF ag am lA
  have mk71 : ∀ u, (Instr.makeMap 71 none).run Tryz.prog u = .ok (.map (some u.heap.size)) (u.alloc (.map #[] 0)) := make71
  have mk76 : ∀ u, (Instr.makeMap 76 none).run Tryz.prog u = .ok (.map (some u.heap.size)) (u.alloc (.map #[] 0)) := make76
  go_upto_region 7 with (first
    | (go_at_call 19
       refine hrn.mono ?_
       rintro e wL ⟨rfl, work, m, F, G, M, W, hm, KE⟩))
  have HB0 : Hid (LI s5 w5 b (ad 0) wL) := Lib.hid (by
    rw [H0.out]
    have hs := HSS.out
    exact LI.of F G (fun e he => by cases he) M W (by have := QM.out; omega) KE ((LA.out).mono (by omega)))
  clear y0 y1 y2 y3 y4 x0 x1 hrn mk71 mk76 F G M W hm KE hs5
  have mk71 := make71
  obtain ⟨tF, htF⟩ : ∃ t, t = s5 + 1 := ⟨_, rfl⟩
  rw [← htF]
  have HTF := Lib.hid htF
  clear htF
  go_loopw [3] (fun i wr => ∃ k : Nat, k ≤ n ∧ i = .int .i64 (100 - k) ∧ LI s5 w5 b (ad k) wr) (fun i _ => (intOf i).toNat)
  case atStart => exact ⟨0, Nat.zero_le _, rfl, HB0.out⟩
  case round =>
    obtain ⟨k, hk, rfl, es, c, c', wk, cw, m, F, G, hes, M, W, LW, hm⟩ := hrel
    obtain ⟨wv, rfl⟩ : ∃ u, u = wr := ⟨_, rfl⟩
    rw [← HTF.out] at F
    obtain ⟨A, hA⟩ : ∃ A, A = ad k := ⟨_, rfl⟩
    rw [← hA] at G hes W
    have HA := Lib.hid hA
    have hO : Others A es.toList := fun e he => by
      obtain ⟨x, h1, h2⟩ := hes e he
      exact ⟨x, h1, by omega⟩
    have HK := Lib.hid hk; have HES := Lib.hid hes; have FF := Lib.hid F; have GG := Lib.hid G; have MM := Lib.hid M; have WW := Lib.hid W; have LLW := Lib.hid LW; have HM := Lib.hid hm; have HO := Lib.hid hO
    have y8 : wv.cell? ⟨tF, 8, none⟩ = some (.slice (some ⟨wk, 0, none⟩) 1 cw) := cell_of F
    clear hA hk hes G M W LW hm hO F
    have hw0 : IntKind.i64.wrap 0 = 0 := by decide
    have hw1 : IntKind.i64.wrap (1 - 1) = 0 := by decide
    go_upto_region 9 with fail
    clear y8
    have HX : Hid (∀ w', Low wv.heap.size wv w' → w'.cell? ⟨tF, 8, none⟩ = some (.slice (some ⟨wk, 0, none⟩) 1 cw) ∧ w'.cell? ⟨wk, 0, none⟩ = some (.int .i64 0) ∧ w'.cell? ⟨wk, 1, none⟩ = some (.int .u16 A)) := Lib.hid fun w' l => ⟨cell_of (l.some FF.out), (WW.out.low l).cell (j := 0) (u := .int .i64 0) rfl, (WW.out.low l).cell (j := 1) (u := .int .u16 A) rfl⟩
    have ld : Low wv.heap.size wv wv.drew := (Low.refl _ _).drew
    have hSd := HX.out _ ld
    have HLd := Lib.hid ld
    clear ld
    refine wp_region_noPanic ?_
    refine wp_region_held_drew (S := fun w' => w'.cell? ⟨tF, 8, none⟩ = some (.slice (some ⟨wk, 0, none⟩) 1 cw) ∧ w'.cell? ⟨wk, 0, none⟩ = some (.int .i64 0) ∧ w'.cell? ⟨wk, 1, none⟩ = some (.int .u16 A)) (by kernel_rfl) (by exact hSd) (fun hHeld => ?_)
    generalize wv.drew = wd at hHeld hSd HLd ⊢
    refine take_at (i := 0) (v := ?_) rfl (by kernel_rfl) (by kernel_rfl) (by kernel_rfl) (fun _ _ _ h => h) (by rfl) ?_ (by exact hHeld) ?_
    rotate_left
    · intro w' hSw; obtain ⟨y0, y1, y2⟩ := hSw; go_simp; (try with_reducible rfl)
    (try simp only [Act.put, List.setIfInBounds_toArray, List.set_cons_zero, List.set_cons_succ])
    refine take_at (i := 1) (v := ?_) rfl (by kernel_rfl) (by kernel_rfl) (by kernel_rfl) (fun _ _ _ h => h) (by rfl) ?_ (by exact hHeld) ?_
    rotate_left
    · intro w' hSw; obtain ⟨y0, y1, y2⟩ := hSw; go_simp; (try with_reducible rfl)
    (try simp only [Act.put, List.setIfInBounds_toArray, List.set_cons_zero, List.set_cons_succ])
    refine take_at (i := 2) (v := ?_) rfl (by kernel_rfl) (by kernel_rfl) (by kernel_rfl) (fun _ _ _ h => h) (by rfl) ?_ (by exact hHeld) ?_
    rotate_left
    · intro w' hSw; obtain ⟨y0, y1, y2⟩ := hSw; go_simp; (try with_reducible rfl)
    (try simp only [Act.put, List.setIfInBounds_toArray, List.set_cons_zero, List.set_cons_succ])
    refine take_at (i := 3) (v := ?_) rfl (by kernel_rfl) (by kernel_rfl) (by kernel_rfl) (fun _ _ _ h => h) (by rfl) ?_ (by exact hHeld) ?_
    rotate_left
    · intro w' hSw; obtain ⟨y0, y1, y2⟩ := hSw; go_simp; (try with_reducible rfl)
    (try simp only [Act.put, List.setIfInBounds_toArray, List.set_cons_zero, List.set_cons_succ])
    refine take_at (i := 4) (v := ?_) rfl (by kernel_rfl) (by kernel_rfl) (by kernel_rfl) (fun _ _ _ h => h) (by rfl) ?_ (by exact hHeld) ?_
    rotate_left
    · intro w' hSw; obtain ⟨y0, y1, y2⟩ := hSw; go_simp; (try with_reducible rfl)
    (try simp only [Act.put, List.setIfInBounds_toArray, List.set_cons_zero, List.set_cons_succ])
    refine take_at (i := 5) (v := ?_) rfl (by kernel_rfl) (by kernel_rfl) (by kernel_rfl) (fun _ _ _ h => h) (by rfl) ?_ (by exact hHeld) ?_
    rotate_left
    · intro w' hSw; obtain ⟨y0, y1, y2⟩ := hSw; go_simp; (try with_reducible rfl)
    (try simp only [Act.put, List.setIfInBounds_toArray, List.set_cons_zero, List.set_cons_succ])
    refine take_at (i := 6) (v := ?_) rfl (by kernel_rfl) (by kernel_rfl) (by kernel_rfl) (fun _ _ _ h => h) (by rfl) ?_ (by exact hHeld) ?_
    rotate_left
    · intro w' hSw; obtain ⟨y0, y1, y2⟩ := hSw; go_simp; (try with_reducible rfl)
    (try simp only [Act.put, List.setIfInBounds_toArray, List.set_cons_zero, List.set_cons_succ])
    refine take_at (i := 7) (v := ?_) rfl (by kernel_rfl) (by kernel_rfl) (by kernel_rfl) (fun _ _ _ h => h) (by rfl) ?_ (by exact hHeld) ?_
    rotate_left
    · intro w' hSw; obtain ⟨y0, y1, y2⟩ := hSw; go_simp; (try with_reducible rfl)
    (try simp only [Act.put, List.setIfInBounds_toArray, List.set_cons_zero, List.set_cons_succ])
    refine take_at (i := 8) (v := ?_) rfl (by kernel_rfl) (by kernel_rfl) (by kernel_rfl) (fun _ _ _ h => h) (by rfl) ?_ (by exact hHeld) ?_
    rotate_left
    · intro w' hSw; obtain ⟨y0, y1, y2⟩ := hSw; go_simp; (try with_reducible rfl)
    (try simp only [Act.put, List.setIfInBounds_toArray, List.set_cons_zero, List.set_cons_succ])
    refine take_at (i := 9) (v := ?_) rfl (by kernel_rfl) (by kernel_rfl) (by kernel_rfl) (fun _ _ _ h => h) (by rfl) ?_ (by exact hHeld) ?_
    rotate_left
    · intro w' hSw; obtain ⟨y0, y1, y2⟩ := hSw; go_simp; (try with_reducible rfl)
    (try simp only [Act.put, List.setIfInBounds_toArray, List.set_cons_zero, List.set_cons_succ])
    refine take_at (i := 10) (v := ?_) rfl (by kernel_rfl) (by kernel_rfl) (by kernel_rfl) (fun _ _ _ h => h) (by rfl) ?_ (by exact hHeld) ?_
    rotate_left
    · intro w' hSw; obtain ⟨y0, y1, y2⟩ := hSw; go_simp; (try with_reducible rfl)
    (try simp only [Act.put, List.setIfInBounds_toArray, List.set_cons_zero, List.set_cons_succ])
    refine take_at (i := 11) (v := ?_) rfl (by kernel_rfl) (by kernel_rfl) (by kernel_rfl) (fun _ _ _ h => h) (by rfl) ?_ (by exact hHeld) ?_
    rotate_left
    · intro w' hSw; obtain ⟨y0, y1, y2⟩ := hSw; go_simp; (try with_reducible rfl)
    (try simp only [Act.put, List.setIfInBounds_toArray, List.set_cons_zero, List.set_cons_succ])
    refine wpAnyH_ready (rs := [12]) (by kernel_rfl) (by simp) ?_
    refine next_at (i := 12) rfl (fun KK hKK => ?_) AllReadyH.nil
    have l7 : Low wd.heap.size wd (wd.alloc (.cells #[.int .i64 0, .int .u16 0] 40)) := (Low.refl _ _).alloc (Nat.le_refl _) _
    have a7 := heap_new wd (.cells #[.int .i64 0, .int .u16 0] 40)
    go_simp
    obtain ⟨t11, ht11⟩ : ∃ t, t = wd.heap.size := ⟨_, rfl⟩
    rw [← ht11] at a7 ⊢
    have HT11 : Hid (wv.heap.size ≤ t11) := Lib.hid (by have := HLd.out.size; omega)
    clear ht11
    generalize wd.alloc (.cells #[.int .i64 0, .int .u16 0] 40) = w7 at l7 a7 hHeld ⊢
    have L7 := Lib.hid (HLd.out.trans (l7.mono HLd.out.size))
    clear l7
    refine hKK.out _ _ (by exact (HX.out _ L7.out)) (fun hHeld => ?_)
    clear hKK KK
    (try simp only [Act.put, List.setIfInBounds_toArray, List.set_cons_zero, List.set_cons_succ])
    refine wpAnyH_ready (rs := [13]) (by kernel_rfl) (by simp) ?_
    refine next_at (i := 13) rfl (fun KK hKK => ?_) AllReadyH.nil
    have ck0 := cell_of (j := 0) a7
    have fk0 := free_of (j := 0) a7
    have bk0 := set_blk (i := 0) (v := .int .i64 0) a7
    have ck1 := cell_of (j := 1) bk0
    have fk1 := free_of (j := 1) bk0
    have bk1 := set_blk (i := 1) (v := .int .u16 A) bk0
    go_simp
    have T8 : Turned t11 w7 (((w7.setCell ⟨t11, 0, none⟩ (.int .i64 0)).setCell ⟨t11, 1, none⟩ (.int .u16 A))) := (Turned.set _ _ _ _).trans (Turned.set _ _ _ _)
    have PB : Hid ((((w7.setCell ⟨t11, 0, none⟩ (.int .i64 0)).setCell ⟨t11, 1, none⟩ (.int .u16 A))).heap[t11]? = some (.cells #[.int .i64 0, .int .u16 A] 40 (0, 0))) := bk1
    generalize ((w7.setCell ⟨t11, 0, none⟩ (.int .i64 0)).setCell ⟨t11, 1, none⟩ (.int .u16 A)) = wa at T8 PB hHeld ⊢
    clear ck0 ck1 fk0 fk1 bk0 bk1 a7
    have La := Lib.hid (L7.out.trans (T8.low HT11.out))
    clear T8
    refine hKK.out _ _ (by exact (HX.out _ La.out)) (fun hHeld => ?_)
    clear hKK KK
    (try simp only [Act.put, List.setIfInBounds_toArray, List.set_cons_zero, List.set_cons_succ])
    refine wpAnyH_done (by kernel_rfl) ?_ _
    refine NoPanic.normal ?_
    clear hHeld hSd
    go_upto_region 10 with fail
    have FA : Hid (wa.drew.heap[tF]? = some (frC b s5 (.slice (some ⟨wk, 0, none⟩) 1 cw))) := Lib.hid (La.out.some FF.out)
    have T11A : Hid (wa.drew.heap[t11]? = some (.cells #[.int .i64 0, .int .u16 A] 40 (0, 0))) := PB
    have LB := Lib.hid La.out.drew
    refine wp_region_noPanic ?_
    refine wp_region_held_drew (S := fun w' => True) (by kernel_rfl) (by exact trivial) (fun hHeld => ?_)
    generalize wa.drew = wd at hHeld FA T11A LB ⊢
    refine take_at (i := 0) (v := ?_) rfl (by kernel_rfl) (by kernel_rfl) (by kernel_rfl) (fun _ _ _ h => h) (by rfl) ?_ (by exact hHeld) ?_
    rotate_left
    · intro w' hSw; skip; go_simp; (try with_reducible rfl)
    (try simp only [Act.put, List.setIfInBounds_toArray, List.set_cons_zero, List.set_cons_succ])
    refine take_at (i := 1) (v := ?_) rfl (by kernel_rfl) (by kernel_rfl) (by kernel_rfl) (fun _ _ _ h => h) (by rfl) ?_ (by exact hHeld) ?_
    rotate_left
    · intro w' hSw; skip; go_simp; (try with_reducible rfl)
    (try simp only [Act.put, List.setIfInBounds_toArray, List.set_cons_zero, List.set_cons_succ])
    refine take_at (i := 2) (v := ?_) rfl (by kernel_rfl) (by kernel_rfl) (by kernel_rfl) (fun _ _ _ h => h) (by rfl) ?_ (by exact hHeld) ?_
    rotate_left
    · intro w' hSw; skip; go_simp; (try with_reducible rfl)
    (try simp only [Act.put, List.setIfInBounds_toArray, List.set_cons_zero, List.set_cons_succ])
    refine take_at (i := 3) (v := ?_) rfl (by kernel_rfl) (by kernel_rfl) (by kernel_rfl) (fun _ _ _ h => h) (by rfl) ?_ (by exact hHeld) ?_
    rotate_left
    · intro w' hSw; skip; go_simp; (try with_reducible rfl)
    (try simp only [Act.put, List.setIfInBounds_toArray, List.set_cons_zero, List.set_cons_succ])
    refine take_at (i := 5) (v := ?_) rfl (by kernel_rfl) (by kernel_rfl) (by kernel_rfl) (fun _ _ _ h => h) (by rfl) ?_ (by exact hHeld) ?_
    rotate_left
    · intro w' hSw; skip; go_simp; (try with_reducible rfl)
    (try simp only [Act.put, List.setIfInBounds_toArray, List.set_cons_zero, List.set_cons_succ])
    refine take_at (i := 6) (v := ?_) rfl (by kernel_rfl) (by kernel_rfl) (by kernel_rfl) (fun _ _ _ h => h) (by rfl) ?_ (by exact hHeld) ?_
    rotate_left
    · intro w' hSw; skip; go_simp; (try with_reducible rfl)
    (try simp only [Act.put, List.setIfInBounds_toArray, List.set_cons_zero, List.set_cons_succ])
    refine take_at (i := 7) (v := ?_) rfl (by kernel_rfl) (by kernel_rfl) (by kernel_rfl) (fun _ _ _ h => h) (by rfl) ?_ (by exact hHeld) ?_
    rotate_left
    · intro w' hSw; skip; go_simp; (try with_reducible rfl)
    (try simp only [Act.put, List.setIfInBounds_toArray, List.set_cons_zero, List.set_cons_succ])
    refine wpAnyH_ready (rs := [4, 8]) (by kernel_rfl) (by simp) ?_
    refine next_at (i := 4) rfl (fun KK hKK => ?_) (next_at (i := 8) rfl (fun KK hKK => ?_) AllReadyH.nil)
    · have c8 : wd.cell? ⟨tF, 8, none⟩ = some (.slice (some ⟨wk, 0, none⟩) 1 cw) := cell_of FA.out
      go_simp
      refine hKK.out _ _ (by exact trivial) (fun hHeld => ?_)
      clear hKK KK
      (try simp only [Act.put, List.setIfInBounds_toArray, List.set_cons_zero, List.set_cons_succ])
      refine wpAnyH_ready (rs := [8]) (by kernel_rfl) (by simp) ?_
      refine next_at (i := 8) rfl (fun KK hKK => ?_) AllReadyH.nil
      go_simp
      clear c8
      refine hKK.out _ _ (by exact trivial) (fun hHeld => ?_)
      clear hKK KK
      (try simp only [Act.put, List.setIfInBounds_toArray, List.set_cons_zero, List.set_cons_succ])
      refine take_at (i := 9) (v := ?_) rfl (by kernel_rfl) (by kernel_rfl) (by kernel_rfl) (fun _ _ _ h => h) (by rfl) ?_ (by exact hHeld) ?_
      rotate_left
      · intro w' hSw; skip; go_simp; (try with_reducible rfl)
      (try simp only [Act.put, List.setIfInBounds_toArray, List.set_cons_zero, List.set_cons_succ])
      refine take_at (i := 10) (v := ?_) rfl (by kernel_rfl) (by kernel_rfl) (by kernel_rfl) (fun _ _ _ h => h) (by rfl) ?_ (by exact hHeld) ?_
      rotate_left
      · intro w' hSw; skip; go_simp; (try with_reducible rfl)
      (try simp only [Act.put, List.setIfInBounds_toArray, List.set_cons_zero, List.set_cons_succ])
      refine take_at (i := 11) (v := ?_) rfl (by kernel_rfl) (by kernel_rfl) (by kernel_rfl) (fun _ _ _ h => h) (by rfl) ?_ (by exact hHeld) ?_
      rotate_left
      · intro w' hSw; skip; go_simp; (try with_reducible rfl)
      (try simp only [Act.put, List.setIfInBounds_toArray, List.set_cons_zero, List.set_cons_succ])
      refine take_at (i := 12) (v := ?_) rfl (by kernel_rfl) (by kernel_rfl) (by kernel_rfl) (fun _ _ _ h => h) (by rfl) ?_ (by exact hHeld) ?_
      rotate_left
      · intro w' hSw; skip; go_simp; (try with_reducible rfl)
      (try simp only [Act.put, List.setIfInBounds_toArray, List.set_cons_zero, List.set_cons_succ])
      refine take_at (i := 13) (v := ?_) rfl (by kernel_rfl) (by kernel_rfl) (by kernel_rfl) (fun _ _ _ h => h) (by rfl) ?_ (by exact hHeld) ?_
      rotate_left
      · intro w' hSw; skip; go_simp; (try with_reducible rfl)
      (try simp only [Act.put, List.setIfInBounds_toArray, List.set_cons_zero, List.set_cons_succ])
      refine wpAnyH_ready (rs := [14]) (by kernel_rfl) (by simp) ?_
      refine next_at (i := 14) rfl (fun KK hKK => ?_) AllReadyH.nil
      have f8 : wd.frozen? ⟨tF, 8, none⟩ = false := free_of FA.out
      have c8 : wd.cell? ⟨tF, 8, none⟩ = some (.slice (some ⟨wk, 0, none⟩) 1 cw) := cell_of FA.out
      go_simp
      have T9 := Turned.set wd tF 8 (.slice (some ⟨wk, 0, none⟩) 0 cw)
      have F9 := set_blk (i := 8) (v := (.slice (some ⟨wk, 0, none⟩) 0 cw)) FA.out
      generalize wd.setCell ⟨tF, 8, none⟩ (.slice (some ⟨wk, 0, none⟩) 0 cw) = wB at T9 F9 ⊢
      have F9 : wB.heap[tF]? = some (frC b s5 (.slice (some ⟨wk, 0, none⟩) 0 cw)) := F9
      clear f8 c8
      refine hKK.out _ _ (by exact trivial) (fun hHeld => ?_)
      clear hKK KK
      (try simp only [Act.put, List.setIfInBounds_toArray, List.set_cons_zero, List.set_cons_succ])
      refine wpAnyH_done (by kernel_rfl) ?_ _
      refine NoPanic.normal ?_
      clear hHeld
      have HTb : Hid (s5 < tF ∧ tF < t11 ∧ tF < m ∧ m < wd.heap.size ∧ t11 < wd.heap.size) := Lib.hid ⟨by have := HTF.out; omega, by have := HT11.out; have := heap_lt FF.out; omega, by have := HTF.out; have := HM.out; omega, heap_lt (LB.out.some MM.out), heap_lt T11A.out⟩
      have T11B := Lib.hid ((T9.block t11 (by have := HTb.out; omega)).trans T11A.out)
      have GB := Lib.hid ((T9.block s5 (by have := HTb.out; omega)).trans (LB.out.some GG.out))
      have MB := Lib.hid ((T9.block m (by have := HTb.out; omega)).trans (LB.out.some MM.out))
      have WB : Hid (Own wB (s5 + 1 + 1) 40 2 (.slice (some ⟨wk, 0, none⟩) 0 cw) 0 []) := Lib.hid ((WW.out.cut.low LB.out).kept fun q hq => T9.block q (by
        simp only [Value.ownBlock, Option.some.injEq] at hq
        rcases WW.out.form with ⟨e, _⟩ | ⟨g', c0, cs, e, h1, _⟩
        · cases e
        · cases e; have := HTF.out; omega))
      have LLB : Hid (Low s5 w5 wB) := Lib.hid ((LLW.out.trans (LB.out.mono (by have := LLW.out.size; have := HSS.out; omega))).trans (T9.low (by have := HTb.out; omega)))
      have FB := Lib.hid F9
      have SB : Hid (wB.heap.size = wd.heap.size) := Lib.hid T9.size
      clear T9 F9
      have hk100 : decide ((100 : Int) - k ≤ 0) = false := by have := HK.out; have := HN.out; simp; omega
      go_upto_region 13 with fail
      clear hk100
      have HY : Hid (∀ w', Low wB.heap.size wB w' → w'.cell? ⟨tF, 7, none⟩ = some (.map (some s5)) ∧ (w'.cell? ⟨t11, 0, none⟩ = some (.int .i64 0) ∧ w'.cell? ⟨t11, 1, none⟩ = some (.int .u16 A)) ∧ (Instr.lookup 71 (.map (some s5)) (plV A) false).run Tryz.prog w' = .ok (.agg #[.int .i64 0, .int .i64 (-1), .map (some m)]) w') := Lib.hid fun w' l => ⟨cell_of (l.some FB.out), ⟨cell_of (l.some T11B.out), cell_of (l.some T11B.out)⟩, lookup_last A w' s5 es _ c' c (l.some GB.out) HO.out⟩
      have ld : Low wB.heap.size wB wB.drew := (Low.refl _ _).drew
      have hSd := HY.out _ ld
      have HLd := Lib.hid ld
      clear ld
      refine wp_region_noPanic ?_
      refine wp_region_held_drew (S := fun w' => w'.cell? ⟨tF, 7, none⟩ = some (.map (some s5)) ∧ (w'.cell? ⟨t11, 0, none⟩ = some (.int .i64 0) ∧ w'.cell? ⟨t11, 1, none⟩ = some (.int .u16 A)) ∧ (Instr.lookup 71 (.map (some s5)) (plV A) false).run Tryz.prog w' = .ok (.agg #[.int .i64 0, .int .i64 (-1), .map (some m)]) w') (by kernel_rfl) (by exact hSd) (fun hHeld => ?_)
      generalize wB.drew = wd2 at hHeld hSd HLd ⊢
      refine take_at (i := 0) (v := ?_) rfl (by kernel_rfl) (by kernel_rfl) (by kernel_rfl) (fun _ _ _ h => h) (by rfl) ?_ (by exact hHeld) ?_
      rotate_left
      · intro w' hSw; obtain ⟨y0, ⟨y1, y2⟩, y3⟩ := hSw; go_simp; (try with_reducible rfl)
      (try simp only [Act.put, List.setIfInBounds_toArray, List.set_cons_zero, List.set_cons_succ])
      refine take_at (i := 1) (v := ?_) rfl (by kernel_rfl) (by kernel_rfl) (by kernel_rfl) (fun _ _ _ h => h) (by rfl) ?_ (by exact hHeld) ?_
      rotate_left
      · intro w' hSw; obtain ⟨y0, ⟨y1, y2⟩, y3⟩ := hSw; go_simp; (try with_reducible rfl)
      (try simp only [Act.put, List.setIfInBounds_toArray, List.set_cons_zero, List.set_cons_succ])
      refine take_at (i := 2) (v := ?_) rfl (by kernel_rfl) (by kernel_rfl) (by kernel_rfl) (fun _ _ _ h => h) (by rfl) ?_ (by exact hHeld) ?_
      rotate_left
      · intro w' hSw; obtain ⟨y0, ⟨y1, y2⟩, y3⟩ := hSw; go_simp; (try with_reducible rfl)
      (try simp only [Act.put, List.setIfInBounds_toArray, List.set_cons_zero, List.set_cons_succ])
      refine take_at (i := 3) (v := ?_) rfl (by kernel_rfl) (by kernel_rfl) (by kernel_rfl) (fun _ _ _ h => h) (by rfl) ?_ (by exact hHeld) ?_
      rotate_left
      · intro w' hSw; obtain ⟨y0, ⟨y1, y2⟩, y3⟩ := hSw; go_simp; (try with_reducible rfl)
      (try simp only [Act.put, List.setIfInBounds_toArray, List.set_cons_zero, List.set_cons_succ])
      refine take_at (i := 4) (v := ?_) rfl (by kernel_rfl) (by kernel_rfl) (by kernel_rfl) (fun _ _ _ h => h) (by rfl) ?_ (by exact hHeld) ?_
      rotate_left
      · intro w' hSw; obtain ⟨y0, ⟨y1, y2⟩, y3⟩ := hSw; go_simp; (try with_reducible rfl)
      (try simp only [Act.put, List.setIfInBounds_toArray, List.set_cons_zero, List.set_cons_succ])
      refine take_at (i := 5) (v := ?_) rfl (by kernel_rfl) (by kernel_rfl) (by kernel_rfl) (fun _ _ _ h => h) (by rfl) ?_ (by exact hHeld) ?_
      rotate_left
      · intro w' hSw; obtain ⟨y0, ⟨y1, y2⟩, y3⟩ := hSw; go_simp; (try with_reducible rfl)
      (try simp only [Act.put, List.setIfInBounds_toArray, List.set_cons_zero, List.set_cons_succ])
      refine wpAnyH_ready (rs := [6]) (by kernel_rfl) (by simp) ?_
      refine next_at (i := 6) rfl (fun KK hKK => ?_) AllReadyH.nil
      have l7 : Low wd2.heap.size wd2 (wd2.alloc (.cells #[.int .i64 0, .int .i64 0, .map none] 78)) := (Low.refl _ _).alloc (Nat.le_refl _) _
      have a7 := heap_new wd2 (.cells #[.int .i64 0, .int .i64 0, .map none] 78)
      go_simp
      obtain ⟨t12, ht12⟩ : ∃ t, t = wd2.heap.size := ⟨_, rfl⟩
      rw [← ht12] at a7 ⊢
      have HT12 : Hid (wB.heap.size ≤ t12) := Lib.hid (by have := HLd.out.size; omega)
      clear ht12
      generalize wd2.alloc (.cells #[.int .i64 0, .int .i64 0, .map none] 78) = w7 at l7 a7 hHeld ⊢
      have L7 := Lib.hid (HLd.out.trans (l7.mono HLd.out.size))
      clear l7
      refine hKK.out _ _ (by exact (HY.out _ L7.out)) (fun hHeld => ?_)
      clear hKK KK
      (try simp only [Act.put, List.setIfInBounds_toArray, List.set_cons_zero, List.set_cons_succ])
      refine wpAnyH_ready (rs := [7]) (by kernel_rfl) (by simp) ?_
      refine next_at (i := 7) rfl (fun KK hKK => ?_) AllReadyH.nil
      have ck0 := cell_of (j := 0) a7
      have fk0 := free_of (j := 0) a7
      have bk0 := set_blk (i := 0) (v := .int .i64 0) a7
      have ck1 := cell_of (j := 1) bk0
      have fk1 := free_of (j := 1) bk0
      have bk1 := set_blk (i := 1) (v := .int .i64 (-1)) bk0
      have ck2 := cell_of (j := 2) bk1
      have fk2 := free_of (j := 2) bk1
      have bk2 := set_blk (i := 2) (v := .map (some m)) bk1
      go_simp
      have T8 : Turned t12 w7 ((((w7.setCell ⟨t12, 0, none⟩ (.int .i64 0)).setCell ⟨t12, 1, none⟩ (.int .i64 (-1))).setCell ⟨t12, 2, none⟩ (.map (some m)))) := ((Turned.set _ _ _ _).trans (Turned.set _ _ _ _)).trans (Turned.set _ _ _ _)
      have QB : Hid (((((w7.setCell ⟨t12, 0, none⟩ (.int .i64 0)).setCell ⟨t12, 1, none⟩ (.int .i64 (-1))).setCell ⟨t12, 2, none⟩ (.map (some m)))).heap[t12]? = some (.cells #[.int .i64 0, .int .i64 (-1), .map (some m)] 78 (0, 0))) := bk2
      generalize (((w7.setCell ⟨t12, 0, none⟩ (.int .i64 0)).setCell ⟨t12, 1, none⟩ (.int .i64 (-1))).setCell ⟨t12, 2, none⟩ (.map (some m))) = wc at T8 QB hHeld ⊢
      clear ck0 ck1 ck2 fk0 fk1 fk2 bk0 bk1 bk2 a7
      have Lc := Lib.hid (L7.out.trans (T8.low HT12.out))
      clear T8
      refine hKK.out _ _ (by exact (HY.out _ Lc.out)) (fun hHeld => ?_)
      clear hKK KK
      (try simp only [Act.put, List.setIfInBounds_toArray, List.set_cons_zero, List.set_cons_succ])
      refine wpAnyH_done (by kernel_rfl) ?_ _
      refine NoPanic.normal ?_
      clear hHeld hSd
      have q2 : wc.cell? ⟨t12, 2, none⟩ = some (.map (some m)) := cell_of QB.out
      have hcl := clone20 m #[] 0 wc (Lc.out.some MB.out)
      go_upto_region 15 with (first
        | (go_at_call 20
           refine hcl.mono ?_
           rintro e w8 ⟨rfl, hw8⟩
           have l8 : Low wc.heap.size wc w8 := by rw [hw8]; exact (Low.refl _ _).alloc (Nat.le_refl _) _
           have m8 : w8.heap[wc.heap.size]? = some (.map #[] 0) := by rw [hw8]; exact heap_new wc _
           obtain ⟨m2, hm2⟩ : ∃ t, t = wc.heap.size := ⟨_, rfl⟩
           rw [← hm2] at m8 ⊢
           have HM2 := Lib.hid hm2
           clear hm2 hw8
           have q8 := l8.some QB.out
           have c82 := cell_of (j := 2) q8
           have f82 := free_of (j := 2) q8
           have b82 := set_blk (i := 2) (v := .map (some m2)) q8))
      clear q2 hcl c82 f82
      have T82 := Turned.set w8 t12 2 (.map (some m2))
      generalize w8.setCell ⟨t12, 2, none⟩ (.map (some m2)) = wD at T82 b82 ⊢
      have QD : Hid (wD.heap[t12]? = some (.cells #[.int .i64 0, .int .i64 (-1), .map (some m2)] 78 (0, 0))) := b82
      have HT12b : Hid (tF < t12 ∧ t11 < t12 ∧ t12 < m2 ∧ s5 < t12) := Lib.hid ⟨by have := HTb.out; have := SB.out; have := HT12.out; omega, by have := HTb.out; have := SB.out; have := HT12.out; omega, by have := HM2.out; have := heap_lt QB.out; omega, by have := HTb.out; have := SB.out; have := HT12.out; omega⟩
      have lcd := Lc.out.trans (l8.mono Lc.out.size)
      have FD := Lib.hid ((T82.block tF (by have := HT12b.out; omega)).trans (lcd.some FB.out))
      have GD := Lib.hid ((T82.block s5 (by have := HT12b.out; omega)).trans (lcd.some GB.out))
      have PD := Lib.hid ((T82.block t11 (by have := HT12b.out; omega)).trans (lcd.some T11B.out))
      have MD := Lib.hid ((T82.block m2 (by have := HT12b.out; omega)).trans m8)
      have WD : Hid (Own wD (s5 + 1 + 1) 40 2 (.slice (some ⟨wk, 0, none⟩) 0 cw) 0 []) := Lib.hid ((WB.out.low lcd).kept fun q hq => T82.block q (by
        simp only [Value.ownBlock, Option.some.injEq] at hq
        rcases WB.out.form with ⟨e, _⟩ | ⟨g', c0, cs, e, _, h1, _⟩
        · cases e
        · cases e; have := heap_lt h1; have := HT12.out; omega))
      have LLD : Hid (Low s5 w5 wD) := Lib.hid ((LLB.out.trans (lcd.mono (by have := LLB.out.size; have := HSS.out; omega))).trans (T82.low (by have := HT12b.out; omega)))
      clear T82 b82 m8 q8 l8 lcd
      have LWD : Hid (Low w.heap.size w wD) := Lib.hid (L5.out.trans (LLD.out.mono (by have := L5.out.size; have := HSS.out; omega)))
      obtain ⟨y0, y1, y2, y3, y4⟩ : ImgAt t4 b wD := by
        have := LLD.out.obj (by have := HSS.out; have := heap_lt I5.out; omega) I5.out
        exact ⟨cell_of this, cell_of this, cell_of this, cell_of this, cell_of this⟩
      obtain ⟨p0, p1⟩ : wD.cell? ⟨t11, 0, none⟩ = some (.int .i64 0) ∧ wD.cell? ⟨t11, 1, none⟩ = some (.int .u16 A) := ⟨cell_of PD.out, cell_of PD.out⟩
      have hfe := HFE.out k HK.out wD (LWD.out.some HB.out)
      have hgi := HGI.out k
      have hbd := HBAD.out
      have hrg := HRG.out k HK.out
      have hst := HST.out k
      have hkn0 := HK.out
      obtain ⟨O, hO⟩ : ∃ x, x = op k := ⟨_, rfl⟩
      obtain ⟨D, hD⟩ : ∃ x, x = d k := ⟨_, rfl⟩
      obtain ⟨S', hS'⟩ : ∃ x, x = s k := ⟨_, rfl⟩
      obtain ⟨I, hI⟩ : ∃ x, x = im k := ⟨_, rfl⟩
      obtain ⟨U, hU⟩ : ∃ x, x = au k := ⟨_, rfl⟩
      obtain ⟨B, hB⟩ : ∃ x, x = bk k := ⟨_, rfl⟩
      obtain ⟨Z, hZ⟩ : ∃ x, x = sz k := ⟨_, rfl⟩
      obtain ⟨E, hE⟩ : ∃ x, x = er k := ⟨_, rfl⟩
      rw [← hO, ← hD, ← hS', ← hI, ← hU, ← hB, ← hZ, ← hE, ← HA.out] at hfe
      rw [← hO, ← hD, ← hS', ← hI, ← hU, ← hB, ← hZ, ← hE] at hgi
      rw [← HA.out] at hrg hst
      rw [← hZ] at hst
      have hbd2 : k = n → Bad O D S' I U B Z E K := fun h => by subst h; rw [hO, hD, hS', hI, hU, hB, hZ, hE]; exact hbd
      clear hbd hO hD hS' hI hU hB hZ hE
      have HGI2 := Lib.hid hgi; have HBD2 := Lib.hid hbd2; have HRG2 := Lib.hid hrg; have HST2 := Lib.hid hst
      clear hgi hbd2 hrg hst hkn0
      go_upto_region 16 with (first
        | (go_at_call 21
           refine hfe.mono ?_
           rintro e wE ⟨rfl, lE⟩
           have l13 : Low wE.heap.size wE (wE.alloc (insC O D S' I U B Z)) := (Low.refl _ _).alloc (Nat.le_refl _) _
           have a13 := InsAt.new wE O D S' I U B Z))
      clear y0 y1 y2 y3 y4 p0 p1 hfe
      obtain ⟨t13, ht13⟩ : ∃ t, t = wE.heap.size := ⟨_, rfl⟩
      rw [← ht13] at a13 ⊢
      clear ht13
      generalize wE.alloc (insC O D S' I U B Z) = wF at l13 a13 ⊢
      have LF := Lib.hid (lE.trans (l13.mono lE.size))
      have A13 := Lib.hid a13
      clear lE l13
      obtain ⟨v0, v1, v2, v3, v4, v5, v6⟩ := a13
      obtain ⟨p0, p1⟩ : wF.cell? ⟨t11, 0, none⟩ = some (.int .i64 0) ∧ wF.cell? ⟨t11, 1, none⟩ = some (.int .u16 A) := ⟨cell_of (LF.out.some PD.out), cell_of (LF.out.some PD.out)⟩
      have LWF : Hid (Low w.heap.size w wF) := Lib.hid (LWD.out.trans (LF.out.mono LWD.out.size))
      have R8 : Hid (wF.heap[t8]? = some (.cells #[.int .i64 0, .int .i64 0, .int .u16 0] 42 (0, 0))) := Lib.hid (LF.out.some (LLD.out.obj (by have := HSS.out; have := heap_lt R5.out; omega) R5.out))
      rcases Nat.lt_or_ge k n with hkn | hkn
      · obtain ⟨hgi, rfl, rfl, rfl⟩ := HGI2.out hkn
        have o0 := hgi.lo
        have o1 := hgi.hi
        have HGI3 := Lib.hid hgi
        have n134 : (O == 134) = false := by simpa using (by omega : ¬ O = 134)
        have n144 : (O == 144) = false := by simpa using (by omega : ¬ O = 144)
        have n145 : (O == 145) = false := by simpa using (by omega : ¬ O = 145)
        have hef := effect_plain wF tF t12 O D S' I Z o0 o1
        clear hgi
        go_upto_region 24 with (first
          | (go_at_call 22
             refine hef.mono ?_
             rintro e wG ⟨rfl, lG⟩
             have LG := Lib.hid (LF.out.trans (lG.mono LF.out.size))
             obtain ⟨q0, q1⟩ : wG.cell? ⟨t12, 0, none⟩ = some (.int .i64 0) ∧ wG.cell? ⟨t12, 1, none⟩ = some (.int .i64 (-1)) := ⟨cell_of (LG.out.some QD.out), cell_of (LG.out.some QD.out)⟩
             have A13G := Lib.hid (A13.out.low lG)
             clear lG))
        clear v0 v1 v2 v3 v4 v5 v6 p0 p1 hef
        obtain ⟨v0, v1, v2, v3, v4, v5, v6⟩ := A13G.out
        obtain ⟨p0, p1⟩ : wG.cell? ⟨t11, 0, none⟩ = some (.int .i64 0) ∧ wG.cell? ⟨t11, 1, none⟩ = some (.int .u16 A) := ⟨cell_of (LG.out.some PD.out), cell_of (LG.out.some PD.out)⟩
        obtain ⟨y0, y1, y2, y3, y4⟩ : ImgAt t4 b wG := by
          have := LG.out.some (LLD.out.obj (by have := HSS.out; have := heap_lt I5.out; omega) I5.out)
          exact ⟨cell_of this, cell_of this, cell_of this, cell_of this, cell_of this⟩
        have hsu := succ_any wG b A O D S' I Z HGI3.out (by have := HRG2.out; omega) (by have := HRG2.out; have := HGI3.out.z1; omega)
        go_wp2_with (first
          | (go_at_call 23
             refine hsu.mono ?_
             rintro e wH ⟨gs, cs2, rfl, r0, r1, lH⟩
             have LH := Lib.hid (LG.out.trans (lH.mono LG.out.size))
             have RR0 := Lib.hid r0; have RR1 := Lib.hid r1
             clear lH r0 r1))
        clear v0 v1 v2 v3 v4 v5 v6 p0 p1 y0 y1 y2 y3 y4 hsu q0 q1
        go_loopw [166] (fun i wr => (i = .int .i64 0 ∧ wr = wH) ∨ (i = .int .i64 1 ∧ LI s5 w5 b (ad (k + 1)) wr)) (fun i _ => 1 - (intOf i).toNat)
        case atStart => exact .inl ⟨rfl, rfl⟩
        case round =>
          rcases hrel with ⟨rfl, rfl⟩ | ⟨rfl, hLI⟩
          · obtain ⟨r0, r1⟩ := And.intro RR0.out RR1.out
            have aI := heap_new wr (.cells #[.int .i64 0, .int .u16 (A + Z)] 40)
            have lI : Low wr.heap.size wr (wr.alloc (.cells #[.int .i64 0, .int .u16 (A + Z)] 40)) := (Low.refl _ _).alloc (Nat.le_refl _) _
            go_upto_region 30 with fail
            clear r0 r1
            obtain ⟨t17, ht17⟩ : ∃ t, t = wr.heap.size := ⟨_, rfl⟩
            rw [← ht17] at aI ⊢
            clear ht17
            generalize wr.alloc (.cells #[.int .i64 0, .int .u16 (A + Z)] 40) = wI at lI aI ⊢
            have LI' := Lib.hid (LH.out.trans (lI.mono LH.out.size))
            obtain ⟨x0, x1⟩ : wI.cell? ⟨t17, 0, none⟩ = some (.int .i64 0) ∧ wI.cell? ⟨t17, 1, none⟩ = some (.int .u16 (A + Z)) := ⟨cell_of aI, cell_of aI⟩
            clear lI aI
            obtain ⟨q0, q1, q2⟩ : wI.cell? ⟨t12, 0, none⟩ = some (.int .i64 0) ∧ wI.cell? ⟨t12, 1, none⟩ = some (.int .i64 (-1)) ∧ wI.cell? ⟨t12, 2, none⟩ = some (.map (some m2)) := ⟨cell_of (LI'.out.some QD.out), cell_of (LI'.out.some QD.out), cell_of (LI'.out.some QD.out)⟩
            have hes2 : ∀ e ∈ (es.push ⟨plV A, .agg #[.int .i64 0, .int .i64 (-1), .map (some m)], c'⟩).toList, ∃ x, e.key = plV x ∧ x < A + Z := fun e he => by
              have hz := HGI3.out.z0
              rw [Array.toList_push, List.mem_append] at he
              rcases he with he | he
              · obtain ⟨x, h1, h2⟩ := HES.out e he
                exact ⟨x, h1, by omega⟩
              · simp at he; subst he; exact ⟨A, rfl, by omega⟩
            have hrn := reach_new wI (s5 + 1 + 1) tF b s5 m2 (A + Z) _ c (.slice (some ⟨wk, 0, none⟩) 0 cw) (LI'.out.some FD.out) (LI'.out.some GD.out) (fun e he => by
              obtain ⟨x, h1, h2⟩ := hes2 e he
              exact ⟨x, h1, by omega⟩) (LI'.out.some MD.out) (WD.out.low LI'.out) (by have := HTF.out; omega) (by omega) (by have := HTF.out; omega) (by have := heap_lt (LI'.out.some QD.out); have := HT12b.out; have := HTF.out; omega)
            have HES2 := Lib.hid hes2
            clear hes2
            go_wp2_with (first
              | (go_at_call 19
                 refine hrn.mono ?_
                 rintro e wJ ⟨rfl, work, mJ, F, G, M, W, hmJ, KE⟩
                 have HLJ : Hid (LI s5 w5 b (ad (k + 1)) wJ) := Lib.hid (by
                   rw [HST2.out hkn]
                   have hs := HSS.out
                   rw [HTF.out] at F KE
                   exact LI.of F G HES2.out M W (by have := heap_lt (LI'.out.some QD.out); have := HT12b.out; have := HTF.out; omega) KE (LLD.out.trans (LI'.out.mono (by have := LLD.out.size; omega))))
                 clear F G M W hmJ KE))
            exact ⟨.inr ⟨rfl, HLJ.out⟩, by decide⟩
          · have hw3 : IntKind.i64.wrap (100 - (k : Int) - 1) = 100 - ((k + 1 : Nat) : Int) := by
              have := HN.out
              have e : (100 - (k : Int) - 1) = 100 - ((k + 1 : Nat) : Int) := by omega
              rw [e]; exact Go.IntWalk.i64_in _ (by omega)
            go_wp2_with fail
            exact ⟨⟨k + 1, hkn, rfl, hLI⟩, by have := HN.out; simp [intOf]; omega⟩
      · have HKE : Hid (k = n) := Lib.hid (by have := HK.out; omega)
        clear hkn
        have hbd3 := HBD2.out HKE.out
        rcases hbd3 with ⟨hE, rfl⟩ | ⟨rfl, rfl, rfl⟩ | ⟨rfl, hO, rfl, rfl⟩ | ⟨rfl, hO1, hO2, hO3, hru, rfl, rfl, rfl, rfl, rfl⟩
        · have nE : (E == 0) = false := by simpa using hE
          have h8 := R8.out
          have LWG := LWF.out
          have ce0 := cell_of (j := 0) h8
          have fe0 := free_of (j := 0) h8
          have be0 := set_blk (i := 0) (v := .int .i64 45) h8
          have ce1 := cell_of (j := 1) be0
          have fe1 := free_of (j := 1) be0
          have be1 := set_blk (i := 1) (v := .int .i64 0) be0
          have ce2 := cell_of (j := 2) be1
          have fe2 := free_of (j := 2) be1
          have be2 := set_blk (i := 2) (v := .int .u16 A) be1
          have re0 : (wF.setCell ⟨t8, 0, none⟩ (.int .i64 45)).cell? ⟨t8, 0, none⟩ = some (.int .i64 45) := (cell_of be0).trans (by simp)
          have re1 : ((wF.setCell ⟨t8, 0, none⟩ (.int .i64 45)).setCell ⟨t8, 1, none⟩ (.int .i64 0)).cell? ⟨t8, 1, none⟩ = some (.int .i64 0) := (cell_of be1).trans (by simp)
          have re2 : (((wF.setCell ⟨t8, 0, none⟩ (.int .i64 45)).setCell ⟨t8, 1, none⟩ (.int .i64 0)).setCell ⟨t8, 2, none⟩ (.int .u16 A)).cell? ⟨t8, 2, none⟩ = some (.int .u16 A) := (cell_of be2).trans (by simp)
          have LZ := Lib.hid (((LWG.setCell (g := t8) (i := 0) (by have := HT.out; omega) (.int .i64 45)).setCell (g := t8) (i := 1) (by have := HT.out; omega) (.int .i64 0)).setCell (g := t8) (i := 2) (by have := HT.out; omega) (.int .u16 A))
          clear LWG
          repeat (first | go_values | go_skip | go_guarded | go_step | go_upon)
          (try simp only [Exit.inBlock, Exit.then])
          refine bodyPost_ret (by simp [results, Tryz.results7, go_sem, re0, re1, re2]; try rfl) rfl ?_
          exact ⟨by rw [← HKE.out, ← HA.out], LZ.out⟩
        · 
          have h8 := R8.out
          have LWG := LWF.out
          have ce0 := cell_of (j := 0) h8
          have fe0 := free_of (j := 0) h8
          have be0 := set_blk (i := 0) (v := .int .i64 41) h8
          have ce1 := cell_of (j := 1) be0
          have fe1 := free_of (j := 1) be0
          have be1 := set_blk (i := 1) (v := .int .i64 0) be0
          have ce2 := cell_of (j := 2) be1
          have fe2 := free_of (j := 2) be1
          have be2 := set_blk (i := 2) (v := .int .u16 A) be1
          have re0 : (wF.setCell ⟨t8, 0, none⟩ (.int .i64 41)).cell? ⟨t8, 0, none⟩ = some (.int .i64 41) := (cell_of be0).trans (by simp)
          have re1 : ((wF.setCell ⟨t8, 0, none⟩ (.int .i64 41)).setCell ⟨t8, 1, none⟩ (.int .i64 0)).cell? ⟨t8, 1, none⟩ = some (.int .i64 0) := (cell_of be1).trans (by simp)
          have re2 : (((wF.setCell ⟨t8, 0, none⟩ (.int .i64 41)).setCell ⟨t8, 1, none⟩ (.int .i64 0)).setCell ⟨t8, 2, none⟩ (.int .u16 A)).cell? ⟨t8, 2, none⟩ = some (.int .u16 A) := (cell_of be2).trans (by simp)
          have LZ := Lib.hid (((LWG.setCell (g := t8) (i := 0) (by have := HT.out; omega) (.int .i64 41)).setCell (g := t8) (i := 1) (by have := HT.out; omega) (.int .i64 0)).setCell (g := t8) (i := 2) (by have := HT.out; omega) (.int .u16 A))
          clear LWG
          repeat (first | go_values | go_skip | go_guarded | go_step | go_upon)
          (try simp only [Exit.inBlock, Exit.then])
          refine bodyPost_ret (by simp [results, Tryz.results7, go_sem, re0, re1, re2]; try rfl) rfl ?_
          exact ⟨by rw [← HKE.out, ← HA.out], LZ.out⟩
        · rcases hO with rfl | rfl
          · 
            have h8 := R8.out
            have LWG := LWF.out
            have ce0 := cell_of (j := 0) h8
            have fe0 := free_of (j := 0) h8
            have be0 := set_blk (i := 0) (v := .int .i64 42) h8
            have ce1 := cell_of (j := 1) be0
            have fe1 := free_of (j := 1) be0
            have be1 := set_blk (i := 1) (v := .int .i64 0) be0
            have ce2 := cell_of (j := 2) be1
            have fe2 := free_of (j := 2) be1
            have be2 := set_blk (i := 2) (v := .int .u16 A) be1
            have re0 : (wF.setCell ⟨t8, 0, none⟩ (.int .i64 42)).cell? ⟨t8, 0, none⟩ = some (.int .i64 42) := (cell_of be0).trans (by simp)
            have re1 : ((wF.setCell ⟨t8, 0, none⟩ (.int .i64 42)).setCell ⟨t8, 1, none⟩ (.int .i64 0)).cell? ⟨t8, 1, none⟩ = some (.int .i64 0) := (cell_of be1).trans (by simp)
            have re2 : (((wF.setCell ⟨t8, 0, none⟩ (.int .i64 42)).setCell ⟨t8, 1, none⟩ (.int .i64 0)).setCell ⟨t8, 2, none⟩ (.int .u16 A)).cell? ⟨t8, 2, none⟩ = some (.int .u16 A) := (cell_of be2).trans (by simp)
            have LZ := Lib.hid (((LWG.setCell (g := t8) (i := 0) (by have := HT.out; omega) (.int .i64 42)).setCell (g := t8) (i := 1) (by have := HT.out; omega) (.int .i64 0)).setCell (g := t8) (i := 2) (by have := HT.out; omega) (.int .u16 A))
            clear LWG
            repeat (first | go_values | go_skip | go_guarded | go_step | go_upon)
            (try simp only [Exit.inBlock, Exit.then])
            refine bodyPost_ret (by simp [results, Tryz.results7, go_sem, re0, re1, re2]; try rfl) rfl ?_
            exact ⟨by rw [← HKE.out, ← HA.out], LZ.out⟩
          · 
            have h8 := R8.out
            have LWG := LWF.out
            have ce0 := cell_of (j := 0) h8
            have fe0 := free_of (j := 0) h8
            have be0 := set_blk (i := 0) (v := .int .i64 42) h8
            have ce1 := cell_of (j := 1) be0
            have fe1 := free_of (j := 1) be0
            have be1 := set_blk (i := 1) (v := .int .i64 0) be0
            have ce2 := cell_of (j := 2) be1
            have fe2 := free_of (j := 2) be1
            have be2 := set_blk (i := 2) (v := .int .u16 A) be1
            have re0 : (wF.setCell ⟨t8, 0, none⟩ (.int .i64 42)).cell? ⟨t8, 0, none⟩ = some (.int .i64 42) := (cell_of be0).trans (by simp)
            have re1 : ((wF.setCell ⟨t8, 0, none⟩ (.int .i64 42)).setCell ⟨t8, 1, none⟩ (.int .i64 0)).cell? ⟨t8, 1, none⟩ = some (.int .i64 0) := (cell_of be1).trans (by simp)
            have re2 : (((wF.setCell ⟨t8, 0, none⟩ (.int .i64 42)).setCell ⟨t8, 1, none⟩ (.int .i64 0)).setCell ⟨t8, 2, none⟩ (.int .u16 A)).cell? ⟨t8, 2, none⟩ = some (.int .u16 A) := (cell_of be2).trans (by simp)
            have LZ := Lib.hid (((LWG.setCell (g := t8) (i := 0) (by have := HT.out; omega) (.int .i64 42)).setCell (g := t8) (i := 1) (by have := HT.out; omega) (.int .i64 0)).setCell (g := t8) (i := 2) (by have := HT.out; omega) (.int .u16 A))
            clear LWG
            repeat (first | go_values | go_skip | go_guarded | go_step | go_upon)
            (try simp only [Exit.inBlock, Exit.then])
            refine bodyPost_ret (by simp [results, Tryz.results7, go_sem, re0, re1, re2]; try rfl) rfl ?_
            exact ⟨by rw [← HKE.out, ← HA.out], LZ.out⟩
        · have n134 : (O == 134) = false := by simpa using hO1
          have n144 : (O == 144) = false := by simpa using hO2
          have n145 : (O == 145) = false := by simpa using hO3
          have hef := effect_bad hru wF tF t12 b s5 m2 (.slice (some ⟨wk, 0, none⟩) 0 cw) (LF.out.some FD.out) (LF.out.some MD.out) (LF.out.some QD.out) (by have := HT12b.out; omega) (by have := HT12b.out; omega) (by have := HT12b.out; omega)
          go_upto_region 23 with (first
            | (go_at_call 22
               refine hef.mono ?_
               rintro e wG ⟨rfl, KG⟩))
          clear v0 v1 v2 v3 v4 v5 v6 p0 p1 hef
          have h8 := (KG.block t8 (heap_lt R8.out) (by have := HT12b.out; have := HTF.out; have := HSS.out; have := heap_lt R5.out; omega) (by have := HT12b.out; have := HTF.out; have := HSS.out; have := heap_lt R5.out; omega)).trans R8.out
          have h11 := (KG.block t11 (heap_lt (LF.out.some PD.out)) (by have := HT12b.out; omega) (by have := HT12b.out; omega)).trans (LF.out.some PD.out)
          obtain ⟨p0, p1⟩ : wG.cell? ⟨t11, 0, none⟩ = some (.int .i64 0) ∧ wG.cell? ⟨t11, 1, none⟩ = some (.int .u16 A) := ⟨cell_of h11, cell_of h11⟩
          have LWG : Low w.heap.size w wG := LWF.out.trans ⟨KG.os, KG.out, KG.size, fun q hq => KG.block q (by have := LWF.out.size; omega) (by have := HT12b.out; have := HTF.out; have := HSS.out; have := L5.out.size; omega) (by have := HT12b.out; have := HTF.out; have := HSS.out; have := L5.out.size; omega)⟩
          have ce0 := cell_of (j := 0) h8
          have fe0 := free_of (j := 0) h8
          have be0 := set_blk (i := 0) (v := .int .i64 43) h8
          have ce1 := cell_of (j := 1) be0
          have fe1 := free_of (j := 1) be0
          have be1 := set_blk (i := 1) (v := .int .i64 0) be0
          have ce2 := cell_of (j := 2) be1
          have fe2 := free_of (j := 2) be1
          have be2 := set_blk (i := 2) (v := .int .u16 A) be1
          have re0 : (wG.setCell ⟨t8, 0, none⟩ (.int .i64 43)).cell? ⟨t8, 0, none⟩ = some (.int .i64 43) := (cell_of be0).trans (by simp)
          have re1 : ((wG.setCell ⟨t8, 0, none⟩ (.int .i64 43)).setCell ⟨t8, 1, none⟩ (.int .i64 0)).cell? ⟨t8, 1, none⟩ = some (.int .i64 0) := (cell_of be1).trans (by simp)
          have re2 : (((wG.setCell ⟨t8, 0, none⟩ (.int .i64 43)).setCell ⟨t8, 1, none⟩ (.int .i64 0)).setCell ⟨t8, 2, none⟩ (.int .u16 A)).cell? ⟨t8, 2, none⟩ = some (.int .u16 A) := (cell_of be2).trans (by simp)
          have LZ := Lib.hid (((LWG.setCell (g := t8) (i := 0) (by have := HT.out; omega) (.int .i64 43)).setCell (g := t8) (i := 1) (by have := HT.out; omega) (.int .i64 0)).setCell (g := t8) (i := 2) (by have := HT.out; omega) (.int .u16 A))
          clear LWG
          repeat (first | go_values | go_skip | go_guarded | go_step | go_upon)
          (try simp only [Exit.inBlock, Exit.then])
          refine bodyPost_ret (by simp [results, Tryz.results7, go_sem, re0, re1, re2]; try rfl) rfl ?_
          exact ⟨by rw [← HKE.out, ← HA.out], LZ.out⟩

    · have c8 : wd.cell? ⟨tF, 8, none⟩ = some (.slice (some ⟨wk, 0, none⟩) 1 cw) := cell_of FA.out
      go_simp
      refine hKK.out _ _ (by exact trivial) (fun hHeld => ?_)
      clear hKK KK
      (try simp only [Act.put, List.setIfInBounds_toArray, List.set_cons_zero, List.set_cons_succ])
      refine take_at (i := 9) (v := ?_) rfl (by kernel_rfl) (by kernel_rfl) (by kernel_rfl) (fun _ _ _ h => h) (by rfl) ?_ (by exact hHeld) ?_
      rotate_left
      · intro w' hSw; skip; go_simp; (try with_reducible rfl)
      (try simp only [Act.put, List.setIfInBounds_toArray, List.set_cons_zero, List.set_cons_succ])
      refine take_at (i := 10) (v := ?_) rfl (by kernel_rfl) (by kernel_rfl) (by kernel_rfl) (fun _ _ _ h => h) (by rfl) ?_ (by exact hHeld) ?_
      rotate_left
      · intro w' hSw; skip; go_simp; (try with_reducible rfl)
      (try simp only [Act.put, List.setIfInBounds_toArray, List.set_cons_zero, List.set_cons_succ])
      refine wpAnyH_ready (rs := [4]) (by kernel_rfl) (by simp) ?_
      refine next_at (i := 4) rfl (fun KK hKK => ?_) AllReadyH.nil
      go_simp
      clear c8
      refine hKK.out _ _ (by exact trivial) (fun hHeld => ?_)
      clear hKK KK
      (try simp only [Act.put, List.setIfInBounds_toArray, List.set_cons_zero, List.set_cons_succ])
      refine take_at (i := 11) (v := ?_) rfl (by kernel_rfl) (by kernel_rfl) (by kernel_rfl) (fun _ _ _ h => h) (by rfl) ?_ (by exact hHeld) ?_
      rotate_left
      · intro w' hSw; skip; go_simp; (try with_reducible rfl)
      (try simp only [Act.put, List.setIfInBounds_toArray, List.set_cons_zero, List.set_cons_succ])
      refine take_at (i := 12) (v := ?_) rfl (by kernel_rfl) (by kernel_rfl) (by kernel_rfl) (fun _ _ _ h => h) (by rfl) ?_ (by exact hHeld) ?_
      rotate_left
      · intro w' hSw; skip; go_simp; (try with_reducible rfl)
      (try simp only [Act.put, List.setIfInBounds_toArray, List.set_cons_zero, List.set_cons_succ])
      refine take_at (i := 13) (v := ?_) rfl (by kernel_rfl) (by kernel_rfl) (by kernel_rfl) (fun _ _ _ h => h) (by rfl) ?_ (by exact hHeld) ?_
      rotate_left
      · intro w' hSw; skip; go_simp; (try with_reducible rfl)
      (try simp only [Act.put, List.setIfInBounds_toArray, List.set_cons_zero, List.set_cons_succ])
      refine wpAnyH_ready (rs := [14]) (by kernel_rfl) (by simp) ?_
      refine next_at (i := 14) rfl (fun KK hKK => ?_) AllReadyH.nil
      have f8 : wd.frozen? ⟨tF, 8, none⟩ = false := free_of FA.out
      have c8 : wd.cell? ⟨tF, 8, none⟩ = some (.slice (some ⟨wk, 0, none⟩) 1 cw) := cell_of FA.out
      go_simp
      have T9 := Turned.set wd tF 8 (.slice (some ⟨wk, 0, none⟩) 0 cw)
      have F9 := set_blk (i := 8) (v := (.slice (some ⟨wk, 0, none⟩) 0 cw)) FA.out
      generalize wd.setCell ⟨tF, 8, none⟩ (.slice (some ⟨wk, 0, none⟩) 0 cw) = wB at T9 F9 ⊢
      have F9 : wB.heap[tF]? = some (frC b s5 (.slice (some ⟨wk, 0, none⟩) 0 cw)) := F9
      clear f8 c8
      refine hKK.out _ _ (by exact trivial) (fun hHeld => ?_)
      clear hKK KK
      (try simp only [Act.put, List.setIfInBounds_toArray, List.set_cons_zero, List.set_cons_succ])
      refine wpAnyH_done (by kernel_rfl) ?_ _
      refine NoPanic.normal ?_
      clear hHeld
      have HTb : Hid (s5 < tF ∧ tF < t11 ∧ tF < m ∧ m < wd.heap.size ∧ t11 < wd.heap.size) := Lib.hid ⟨by have := HTF.out; omega, by have := HT11.out; have := heap_lt FF.out; omega, by have := HTF.out; have := HM.out; omega, heap_lt (LB.out.some MM.out), heap_lt T11A.out⟩
      have T11B := Lib.hid ((T9.block t11 (by have := HTb.out; omega)).trans T11A.out)
      have GB := Lib.hid ((T9.block s5 (by have := HTb.out; omega)).trans (LB.out.some GG.out))
      have MB := Lib.hid ((T9.block m (by have := HTb.out; omega)).trans (LB.out.some MM.out))
      have WB : Hid (Own wB (s5 + 1 + 1) 40 2 (.slice (some ⟨wk, 0, none⟩) 0 cw) 0 []) := Lib.hid ((WW.out.cut.low LB.out).kept fun q hq => T9.block q (by
        simp only [Value.ownBlock, Option.some.injEq] at hq
        rcases WW.out.form with ⟨e, _⟩ | ⟨g', c0, cs, e, h1, _⟩
        · cases e
        · cases e; have := HTF.out; omega))
      have LLB : Hid (Low s5 w5 wB) := Lib.hid ((LLW.out.trans (LB.out.mono (by have := LLW.out.size; have := HSS.out; omega))).trans (T9.low (by have := HTb.out; omega)))
      have FB := Lib.hid F9
      have SB : Hid (wB.heap.size = wd.heap.size) := Lib.hid T9.size
      clear T9 F9
      have hk100 : decide ((100 : Int) - k ≤ 0) = false := by have := HK.out; have := HN.out; simp; omega
      go_upto_region 13 with fail
      clear hk100
      have HY : Hid (∀ w', Low wB.heap.size wB w' → w'.cell? ⟨tF, 7, none⟩ = some (.map (some s5)) ∧ (w'.cell? ⟨t11, 0, none⟩ = some (.int .i64 0) ∧ w'.cell? ⟨t11, 1, none⟩ = some (.int .u16 A)) ∧ (Instr.lookup 71 (.map (some s5)) (plV A) false).run Tryz.prog w' = .ok (.agg #[.int .i64 0, .int .i64 (-1), .map (some m)]) w') := Lib.hid fun w' l => ⟨cell_of (l.some FB.out), ⟨cell_of (l.some T11B.out), cell_of (l.some T11B.out)⟩, lookup_last A w' s5 es _ c' c (l.some GB.out) HO.out⟩
      have ld : Low wB.heap.size wB wB.drew := (Low.refl _ _).drew
      have hSd := HY.out _ ld
      have HLd := Lib.hid ld
      clear ld
      refine wp_region_noPanic ?_
      refine wp_region_held_drew (S := fun w' => w'.cell? ⟨tF, 7, none⟩ = some (.map (some s5)) ∧ (w'.cell? ⟨t11, 0, none⟩ = some (.int .i64 0) ∧ w'.cell? ⟨t11, 1, none⟩ = some (.int .u16 A)) ∧ (Instr.lookup 71 (.map (some s5)) (plV A) false).run Tryz.prog w' = .ok (.agg #[.int .i64 0, .int .i64 (-1), .map (some m)]) w') (by kernel_rfl) (by exact hSd) (fun hHeld => ?_)
      generalize wB.drew = wd2 at hHeld hSd HLd ⊢
      refine take_at (i := 0) (v := ?_) rfl (by kernel_rfl) (by kernel_rfl) (by kernel_rfl) (fun _ _ _ h => h) (by rfl) ?_ (by exact hHeld) ?_
      rotate_left
      · intro w' hSw; obtain ⟨y0, ⟨y1, y2⟩, y3⟩ := hSw; go_simp; (try with_reducible rfl)
      (try simp only [Act.put, List.setIfInBounds_toArray, List.set_cons_zero, List.set_cons_succ])
      refine take_at (i := 1) (v := ?_) rfl (by kernel_rfl) (by kernel_rfl) (by kernel_rfl) (fun _ _ _ h => h) (by rfl) ?_ (by exact hHeld) ?_
      rotate_left
      · intro w' hSw; obtain ⟨y0, ⟨y1, y2⟩, y3⟩ := hSw; go_simp; (try with_reducible rfl)
      (try simp only [Act.put, List.setIfInBounds_toArray, List.set_cons_zero, List.set_cons_succ])
      refine take_at (i := 2) (v := ?_) rfl (by kernel_rfl) (by kernel_rfl) (by kernel_rfl) (fun _ _ _ h => h) (by rfl) ?_ (by exact hHeld) ?_
      rotate_left
      · intro w' hSw; obtain ⟨y0, ⟨y1, y2⟩, y3⟩ := hSw; go_simp; (try with_reducible rfl)
      (try simp only [Act.put, List.setIfInBounds_toArray, List.set_cons_zero, List.set_cons_succ])
      refine take_at (i := 3) (v := ?_) rfl (by kernel_rfl) (by kernel_rfl) (by kernel_rfl) (fun _ _ _ h => h) (by rfl) ?_ (by exact hHeld) ?_
      rotate_left
      · intro w' hSw; obtain ⟨y0, ⟨y1, y2⟩, y3⟩ := hSw; go_simp; (try with_reducible rfl)
      (try simp only [Act.put, List.setIfInBounds_toArray, List.set_cons_zero, List.set_cons_succ])
      refine take_at (i := 4) (v := ?_) rfl (by kernel_rfl) (by kernel_rfl) (by kernel_rfl) (fun _ _ _ h => h) (by rfl) ?_ (by exact hHeld) ?_
      rotate_left
      · intro w' hSw; obtain ⟨y0, ⟨y1, y2⟩, y3⟩ := hSw; go_simp; (try with_reducible rfl)
      (try simp only [Act.put, List.setIfInBounds_toArray, List.set_cons_zero, List.set_cons_succ])
      refine take_at (i := 5) (v := ?_) rfl (by kernel_rfl) (by kernel_rfl) (by kernel_rfl) (fun _ _ _ h => h) (by rfl) ?_ (by exact hHeld) ?_
      rotate_left
      · intro w' hSw; obtain ⟨y0, ⟨y1, y2⟩, y3⟩ := hSw; go_simp; (try with_reducible rfl)
      (try simp only [Act.put, List.setIfInBounds_toArray, List.set_cons_zero, List.set_cons_succ])
      refine wpAnyH_ready (rs := [6]) (by kernel_rfl) (by simp) ?_
      refine next_at (i := 6) rfl (fun KK hKK => ?_) AllReadyH.nil
      have l7 : Low wd2.heap.size wd2 (wd2.alloc (.cells #[.int .i64 0, .int .i64 0, .map none] 78)) := (Low.refl _ _).alloc (Nat.le_refl _) _
      have a7 := heap_new wd2 (.cells #[.int .i64 0, .int .i64 0, .map none] 78)
      go_simp
      obtain ⟨t12, ht12⟩ : ∃ t, t = wd2.heap.size := ⟨_, rfl⟩
      rw [← ht12] at a7 ⊢
      have HT12 : Hid (wB.heap.size ≤ t12) := Lib.hid (by have := HLd.out.size; omega)
      clear ht12
      generalize wd2.alloc (.cells #[.int .i64 0, .int .i64 0, .map none] 78) = w7 at l7 a7 hHeld ⊢
      have L7 := Lib.hid (HLd.out.trans (l7.mono HLd.out.size))
      clear l7
      refine hKK.out _ _ (by exact (HY.out _ L7.out)) (fun hHeld => ?_)
      clear hKK KK
      (try simp only [Act.put, List.setIfInBounds_toArray, List.set_cons_zero, List.set_cons_succ])
      refine wpAnyH_ready (rs := [7]) (by kernel_rfl) (by simp) ?_
      refine next_at (i := 7) rfl (fun KK hKK => ?_) AllReadyH.nil
      have ck0 := cell_of (j := 0) a7
      have fk0 := free_of (j := 0) a7
      have bk0 := set_blk (i := 0) (v := .int .i64 0) a7
      have ck1 := cell_of (j := 1) bk0
      have fk1 := free_of (j := 1) bk0
      have bk1 := set_blk (i := 1) (v := .int .i64 (-1)) bk0
      have ck2 := cell_of (j := 2) bk1
      have fk2 := free_of (j := 2) bk1
      have bk2 := set_blk (i := 2) (v := .map (some m)) bk1
      go_simp
      have T8 : Turned t12 w7 ((((w7.setCell ⟨t12, 0, none⟩ (.int .i64 0)).setCell ⟨t12, 1, none⟩ (.int .i64 (-1))).setCell ⟨t12, 2, none⟩ (.map (some m)))) := ((Turned.set _ _ _ _).trans (Turned.set _ _ _ _)).trans (Turned.set _ _ _ _)
      have QB : Hid (((((w7.setCell ⟨t12, 0, none⟩ (.int .i64 0)).setCell ⟨t12, 1, none⟩ (.int .i64 (-1))).setCell ⟨t12, 2, none⟩ (.map (some m)))).heap[t12]? = some (.cells #[.int .i64 0, .int .i64 (-1), .map (some m)] 78 (0, 0))) := bk2
      generalize (((w7.setCell ⟨t12, 0, none⟩ (.int .i64 0)).setCell ⟨t12, 1, none⟩ (.int .i64 (-1))).setCell ⟨t12, 2, none⟩ (.map (some m))) = wc at T8 QB hHeld ⊢
      clear ck0 ck1 ck2 fk0 fk1 fk2 bk0 bk1 bk2 a7
      have Lc := Lib.hid (L7.out.trans (T8.low HT12.out))
      clear T8
      refine hKK.out _ _ (by exact (HY.out _ Lc.out)) (fun hHeld => ?_)
      clear hKK KK
      (try simp only [Act.put, List.setIfInBounds_toArray, List.set_cons_zero, List.set_cons_succ])
      refine wpAnyH_done (by kernel_rfl) ?_ _
      refine NoPanic.normal ?_
      clear hHeld hSd
      have q2 : wc.cell? ⟨t12, 2, none⟩ = some (.map (some m)) := cell_of QB.out
      have hcl := clone20 m #[] 0 wc (Lc.out.some MB.out)
      go_upto_region 15 with (first
        | (go_at_call 20
           refine hcl.mono ?_
           rintro e w8 ⟨rfl, hw8⟩
           have l8 : Low wc.heap.size wc w8 := by rw [hw8]; exact (Low.refl _ _).alloc (Nat.le_refl _) _
           have m8 : w8.heap[wc.heap.size]? = some (.map #[] 0) := by rw [hw8]; exact heap_new wc _
           obtain ⟨m2, hm2⟩ : ∃ t, t = wc.heap.size := ⟨_, rfl⟩
           rw [← hm2] at m8 ⊢
           have HM2 := Lib.hid hm2
           clear hm2 hw8
           have q8 := l8.some QB.out
           have c82 := cell_of (j := 2) q8
           have f82 := free_of (j := 2) q8
           have b82 := set_blk (i := 2) (v := .map (some m2)) q8))
      clear q2 hcl c82 f82
      have T82 := Turned.set w8 t12 2 (.map (some m2))
      generalize w8.setCell ⟨t12, 2, none⟩ (.map (some m2)) = wD at T82 b82 ⊢
      have QD : Hid (wD.heap[t12]? = some (.cells #[.int .i64 0, .int .i64 (-1), .map (some m2)] 78 (0, 0))) := b82
      have HT12b : Hid (tF < t12 ∧ t11 < t12 ∧ t12 < m2 ∧ s5 < t12) := Lib.hid ⟨by have := HTb.out; have := SB.out; have := HT12.out; omega, by have := HTb.out; have := SB.out; have := HT12.out; omega, by have := HM2.out; have := heap_lt QB.out; omega, by have := HTb.out; have := SB.out; have := HT12.out; omega⟩
      have lcd := Lc.out.trans (l8.mono Lc.out.size)
      have FD := Lib.hid ((T82.block tF (by have := HT12b.out; omega)).trans (lcd.some FB.out))
      have GD := Lib.hid ((T82.block s5 (by have := HT12b.out; omega)).trans (lcd.some GB.out))
      have PD := Lib.hid ((T82.block t11 (by have := HT12b.out; omega)).trans (lcd.some T11B.out))
      have MD := Lib.hid ((T82.block m2 (by have := HT12b.out; omega)).trans m8)
      have WD : Hid (Own wD (s5 + 1 + 1) 40 2 (.slice (some ⟨wk, 0, none⟩) 0 cw) 0 []) := Lib.hid ((WB.out.low lcd).kept fun q hq => T82.block q (by
        simp only [Value.ownBlock, Option.some.injEq] at hq
        rcases WB.out.form with ⟨e, _⟩ | ⟨g', c0, cs, e, _, h1, _⟩
        · cases e
        · cases e; have := heap_lt h1; have := HT12.out; omega))
      have LLD : Hid (Low s5 w5 wD) := Lib.hid ((LLB.out.trans (lcd.mono (by have := LLB.out.size; have := HSS.out; omega))).trans (T82.low (by have := HT12b.out; omega)))
      clear T82 b82 m8 q8 l8 lcd
      have LWD : Hid (Low w.heap.size w wD) := Lib.hid (L5.out.trans (LLD.out.mono (by have := L5.out.size; have := HSS.out; omega)))
      obtain ⟨y0, y1, y2, y3, y4⟩ : ImgAt t4 b wD := by
        have := LLD.out.obj (by have := HSS.out; have := heap_lt I5.out; omega) I5.out
        exact ⟨cell_of this, cell_of this, cell_of this, cell_of this, cell_of this⟩
      obtain ⟨p0, p1⟩ : wD.cell? ⟨t11, 0, none⟩ = some (.int .i64 0) ∧ wD.cell? ⟨t11, 1, none⟩ = some (.int .u16 A) := ⟨cell_of PD.out, cell_of PD.out⟩
      have hfe := HFE.out k HK.out wD (LWD.out.some HB.out)
      have hgi := HGI.out k
      have hbd := HBAD.out
      have hrg := HRG.out k HK.out
      have hst := HST.out k
      have hkn0 := HK.out
      obtain ⟨O, hO⟩ : ∃ x, x = op k := ⟨_, rfl⟩
      obtain ⟨D, hD⟩ : ∃ x, x = d k := ⟨_, rfl⟩
      obtain ⟨S', hS'⟩ : ∃ x, x = s k := ⟨_, rfl⟩
      obtain ⟨I, hI⟩ : ∃ x, x = im k := ⟨_, rfl⟩
      obtain ⟨U, hU⟩ : ∃ x, x = au k := ⟨_, rfl⟩
      obtain ⟨B, hB⟩ : ∃ x, x = bk k := ⟨_, rfl⟩
      obtain ⟨Z, hZ⟩ : ∃ x, x = sz k := ⟨_, rfl⟩
      obtain ⟨E, hE⟩ : ∃ x, x = er k := ⟨_, rfl⟩
      rw [← hO, ← hD, ← hS', ← hI, ← hU, ← hB, ← hZ, ← hE, ← HA.out] at hfe
      rw [← hO, ← hD, ← hS', ← hI, ← hU, ← hB, ← hZ, ← hE] at hgi
      rw [← HA.out] at hrg hst
      rw [← hZ] at hst
      have hbd2 : k = n → Bad O D S' I U B Z E K := fun h => by subst h; rw [hO, hD, hS', hI, hU, hB, hZ, hE]; exact hbd
      clear hbd hO hD hS' hI hU hB hZ hE
      have HGI2 := Lib.hid hgi; have HBD2 := Lib.hid hbd2; have HRG2 := Lib.hid hrg; have HST2 := Lib.hid hst
      clear hgi hbd2 hrg hst hkn0
      go_upto_region 16 with (first
        | (go_at_call 21
           refine hfe.mono ?_
           rintro e wE ⟨rfl, lE⟩
           have l13 : Low wE.heap.size wE (wE.alloc (insC O D S' I U B Z)) := (Low.refl _ _).alloc (Nat.le_refl _) _
           have a13 := InsAt.new wE O D S' I U B Z))
      clear y0 y1 y2 y3 y4 p0 p1 hfe
      obtain ⟨t13, ht13⟩ : ∃ t, t = wE.heap.size := ⟨_, rfl⟩
      rw [← ht13] at a13 ⊢
      clear ht13
      generalize wE.alloc (insC O D S' I U B Z) = wF at l13 a13 ⊢
      have LF := Lib.hid (lE.trans (l13.mono lE.size))
      have A13 := Lib.hid a13
      clear lE l13
      obtain ⟨v0, v1, v2, v3, v4, v5, v6⟩ := a13
      obtain ⟨p0, p1⟩ : wF.cell? ⟨t11, 0, none⟩ = some (.int .i64 0) ∧ wF.cell? ⟨t11, 1, none⟩ = some (.int .u16 A) := ⟨cell_of (LF.out.some PD.out), cell_of (LF.out.some PD.out)⟩
      have LWF : Hid (Low w.heap.size w wF) := Lib.hid (LWD.out.trans (LF.out.mono LWD.out.size))
      have R8 : Hid (wF.heap[t8]? = some (.cells #[.int .i64 0, .int .i64 0, .int .u16 0] 42 (0, 0))) := Lib.hid (LF.out.some (LLD.out.obj (by have := HSS.out; have := heap_lt R5.out; omega) R5.out))
      rcases Nat.lt_or_ge k n with hkn | hkn
      · obtain ⟨hgi, rfl, rfl, rfl⟩ := HGI2.out hkn
        have o0 := hgi.lo
        have o1 := hgi.hi
        have HGI3 := Lib.hid hgi
        have n134 : (O == 134) = false := by simpa using (by omega : ¬ O = 134)
        have n144 : (O == 144) = false := by simpa using (by omega : ¬ O = 144)
        have n145 : (O == 145) = false := by simpa using (by omega : ¬ O = 145)
        have hef := effect_plain wF tF t12 O D S' I Z o0 o1
        clear hgi
        go_upto_region 24 with (first
          | (go_at_call 22
             refine hef.mono ?_
             rintro e wG ⟨rfl, lG⟩
             have LG := Lib.hid (LF.out.trans (lG.mono LF.out.size))
             obtain ⟨q0, q1⟩ : wG.cell? ⟨t12, 0, none⟩ = some (.int .i64 0) ∧ wG.cell? ⟨t12, 1, none⟩ = some (.int .i64 (-1)) := ⟨cell_of (LG.out.some QD.out), cell_of (LG.out.some QD.out)⟩
             have A13G := Lib.hid (A13.out.low lG)
             clear lG))
        clear v0 v1 v2 v3 v4 v5 v6 p0 p1 hef
        obtain ⟨v0, v1, v2, v3, v4, v5, v6⟩ := A13G.out
        obtain ⟨p0, p1⟩ : wG.cell? ⟨t11, 0, none⟩ = some (.int .i64 0) ∧ wG.cell? ⟨t11, 1, none⟩ = some (.int .u16 A) := ⟨cell_of (LG.out.some PD.out), cell_of (LG.out.some PD.out)⟩
        obtain ⟨y0, y1, y2, y3, y4⟩ : ImgAt t4 b wG := by
          have := LG.out.some (LLD.out.obj (by have := HSS.out; have := heap_lt I5.out; omega) I5.out)
          exact ⟨cell_of this, cell_of this, cell_of this, cell_of this, cell_of this⟩
        have hsu := succ_any wG b A O D S' I Z HGI3.out (by have := HRG2.out; omega) (by have := HRG2.out; have := HGI3.out.z1; omega)
        go_wp2_with (first
          | (go_at_call 23
             refine hsu.mono ?_
             rintro e wH ⟨gs, cs2, rfl, r0, r1, lH⟩
             have LH := Lib.hid (LG.out.trans (lH.mono LG.out.size))
             have RR0 := Lib.hid r0; have RR1 := Lib.hid r1
             clear lH r0 r1))
        clear v0 v1 v2 v3 v4 v5 v6 p0 p1 y0 y1 y2 y3 y4 hsu q0 q1
        go_loopw [166] (fun i wr => (i = .int .i64 0 ∧ wr = wH) ∨ (i = .int .i64 1 ∧ LI s5 w5 b (ad (k + 1)) wr)) (fun i _ => 1 - (intOf i).toNat)
        case atStart => exact .inl ⟨rfl, rfl⟩
        case round =>
          rcases hrel with ⟨rfl, rfl⟩ | ⟨rfl, hLI⟩
          · obtain ⟨r0, r1⟩ := And.intro RR0.out RR1.out
            have aI := heap_new wr (.cells #[.int .i64 0, .int .u16 (A + Z)] 40)
            have lI : Low wr.heap.size wr (wr.alloc (.cells #[.int .i64 0, .int .u16 (A + Z)] 40)) := (Low.refl _ _).alloc (Nat.le_refl _) _
            go_upto_region 30 with fail
            clear r0 r1
            obtain ⟨t17, ht17⟩ : ∃ t, t = wr.heap.size := ⟨_, rfl⟩
            rw [← ht17] at aI ⊢
            clear ht17
            generalize wr.alloc (.cells #[.int .i64 0, .int .u16 (A + Z)] 40) = wI at lI aI ⊢
            have LI' := Lib.hid (LH.out.trans (lI.mono LH.out.size))
            obtain ⟨x0, x1⟩ : wI.cell? ⟨t17, 0, none⟩ = some (.int .i64 0) ∧ wI.cell? ⟨t17, 1, none⟩ = some (.int .u16 (A + Z)) := ⟨cell_of aI, cell_of aI⟩
            clear lI aI
            obtain ⟨q0, q1, q2⟩ : wI.cell? ⟨t12, 0, none⟩ = some (.int .i64 0) ∧ wI.cell? ⟨t12, 1, none⟩ = some (.int .i64 (-1)) ∧ wI.cell? ⟨t12, 2, none⟩ = some (.map (some m2)) := ⟨cell_of (LI'.out.some QD.out), cell_of (LI'.out.some QD.out), cell_of (LI'.out.some QD.out)⟩
            have hes2 : ∀ e ∈ (es.push ⟨plV A, .agg #[.int .i64 0, .int .i64 (-1), .map (some m)], c'⟩).toList, ∃ x, e.key = plV x ∧ x < A + Z := fun e he => by
              have hz := HGI3.out.z0
              rw [Array.toList_push, List.mem_append] at he
              rcases he with he | he
              · obtain ⟨x, h1, h2⟩ := HES.out e he
                exact ⟨x, h1, by omega⟩
              · simp at he; subst he; exact ⟨A, rfl, by omega⟩
            have hrn := reach_new wI (s5 + 1 + 1) tF b s5 m2 (A + Z) _ c (.slice (some ⟨wk, 0, none⟩) 0 cw) (LI'.out.some FD.out) (LI'.out.some GD.out) (fun e he => by
              obtain ⟨x, h1, h2⟩ := hes2 e he
              exact ⟨x, h1, by omega⟩) (LI'.out.some MD.out) (WD.out.low LI'.out) (by have := HTF.out; omega) (by omega) (by have := HTF.out; omega) (by have := heap_lt (LI'.out.some QD.out); have := HT12b.out; have := HTF.out; omega)
            have HES2 := Lib.hid hes2
            clear hes2
            go_wp2_with (first
              | (go_at_call 19
                 refine hrn.mono ?_
                 rintro e wJ ⟨rfl, work, mJ, F, G, M, W, hmJ, KE⟩
                 have HLJ : Hid (LI s5 w5 b (ad (k + 1)) wJ) := Lib.hid (by
                   rw [HST2.out hkn]
                   have hs := HSS.out
                   rw [HTF.out] at F KE
                   exact LI.of F G HES2.out M W (by have := heap_lt (LI'.out.some QD.out); have := HT12b.out; have := HTF.out; omega) KE (LLD.out.trans (LI'.out.mono (by have := LLD.out.size; omega))))
                 clear F G M W hmJ KE))
            exact ⟨.inr ⟨rfl, HLJ.out⟩, by decide⟩
          · have hw3 : IntKind.i64.wrap (100 - (k : Int) - 1) = 100 - ((k + 1 : Nat) : Int) := by
              have := HN.out
              have e : (100 - (k : Int) - 1) = 100 - ((k + 1 : Nat) : Int) := by omega
              rw [e]; exact Go.IntWalk.i64_in _ (by omega)
            go_wp2_with fail
            exact ⟨⟨k + 1, hkn, rfl, hLI⟩, by have := HN.out; simp [intOf]; omega⟩
      · have HKE : Hid (k = n) := Lib.hid (by have := HK.out; omega)
        clear hkn
        have hbd3 := HBD2.out HKE.out
        rcases hbd3 with ⟨hE, rfl⟩ | ⟨rfl, rfl, rfl⟩ | ⟨rfl, hO, rfl, rfl⟩ | ⟨rfl, hO1, hO2, hO3, hru, rfl, rfl, rfl, rfl, rfl⟩
        · have nE : (E == 0) = false := by simpa using hE
          have h8 := R8.out
          have LWG := LWF.out
          have ce0 := cell_of (j := 0) h8
          have fe0 := free_of (j := 0) h8
          have be0 := set_blk (i := 0) (v := .int .i64 45) h8
          have ce1 := cell_of (j := 1) be0
          have fe1 := free_of (j := 1) be0
          have be1 := set_blk (i := 1) (v := .int .i64 0) be0
          have ce2 := cell_of (j := 2) be1
          have fe2 := free_of (j := 2) be1
          have be2 := set_blk (i := 2) (v := .int .u16 A) be1
          have re0 : (wF.setCell ⟨t8, 0, none⟩ (.int .i64 45)).cell? ⟨t8, 0, none⟩ = some (.int .i64 45) := (cell_of be0).trans (by simp)
          have re1 : ((wF.setCell ⟨t8, 0, none⟩ (.int .i64 45)).setCell ⟨t8, 1, none⟩ (.int .i64 0)).cell? ⟨t8, 1, none⟩ = some (.int .i64 0) := (cell_of be1).trans (by simp)
          have re2 : (((wF.setCell ⟨t8, 0, none⟩ (.int .i64 45)).setCell ⟨t8, 1, none⟩ (.int .i64 0)).setCell ⟨t8, 2, none⟩ (.int .u16 A)).cell? ⟨t8, 2, none⟩ = some (.int .u16 A) := (cell_of be2).trans (by simp)
          have LZ := Lib.hid (((LWG.setCell (g := t8) (i := 0) (by have := HT.out; omega) (.int .i64 45)).setCell (g := t8) (i := 1) (by have := HT.out; omega) (.int .i64 0)).setCell (g := t8) (i := 2) (by have := HT.out; omega) (.int .u16 A))
          clear LWG
          repeat (first | go_values | go_skip | go_guarded | go_step | go_upon)
          (try simp only [Exit.inBlock, Exit.then])
          refine bodyPost_ret (by simp [results, Tryz.results7, go_sem, re0, re1, re2]; try rfl) rfl ?_
          exact ⟨by rw [← HKE.out, ← HA.out], LZ.out⟩
        · 
          have h8 := R8.out
          have LWG := LWF.out
          have ce0 := cell_of (j := 0) h8
          have fe0 := free_of (j := 0) h8
          have be0 := set_blk (i := 0) (v := .int .i64 41) h8
          have ce1 := cell_of (j := 1) be0
          have fe1 := free_of (j := 1) be0
          have be1 := set_blk (i := 1) (v := .int .i64 0) be0
          have ce2 := cell_of (j := 2) be1
          have fe2 := free_of (j := 2) be1
          have be2 := set_blk (i := 2) (v := .int .u16 A) be1
          have re0 : (wF.setCell ⟨t8, 0, none⟩ (.int .i64 41)).cell? ⟨t8, 0, none⟩ = some (.int .i64 41) := (cell_of be0).trans (by simp)
          have re1 : ((wF.setCell ⟨t8, 0, none⟩ (.int .i64 41)).setCell ⟨t8, 1, none⟩ (.int .i64 0)).cell? ⟨t8, 1, none⟩ = some (.int .i64 0) := (cell_of be1).trans (by simp)
          have re2 : (((wF.setCell ⟨t8, 0, none⟩ (.int .i64 41)).setCell ⟨t8, 1, none⟩ (.int .i64 0)).setCell ⟨t8, 2, none⟩ (.int .u16 A)).cell? ⟨t8, 2, none⟩ = some (.int .u16 A) := (cell_of be2).trans (by simp)
          have LZ := Lib.hid (((LWG.setCell (g := t8) (i := 0) (by have := HT.out; omega) (.int .i64 41)).setCell (g := t8) (i := 1) (by have := HT.out; omega) (.int .i64 0)).setCell (g := t8) (i := 2) (by have := HT.out; omega) (.int .u16 A))
          clear LWG
          repeat (first | go_values | go_skip | go_guarded | go_step | go_upon)
          (try simp only [Exit.inBlock, Exit.then])
          refine bodyPost_ret (by simp [results, Tryz.results7, go_sem, re0, re1, re2]; try rfl) rfl ?_
          exact ⟨by rw [← HKE.out, ← HA.out], LZ.out⟩
        · rcases hO with rfl | rfl
          · 
            have h8 := R8.out
            have LWG := LWF.out
            have ce0 := cell_of (j := 0) h8
            have fe0 := free_of (j := 0) h8
            have be0 := set_blk (i := 0) (v := .int .i64 42) h8
            have ce1 := cell_of (j := 1) be0
            have fe1 := free_of (j := 1) be0
            have be1 := set_blk (i := 1) (v := .int .i64 0) be0
            have ce2 := cell_of (j := 2) be1
            have fe2 := free_of (j := 2) be1
            have be2 := set_blk (i := 2) (v := .int .u16 A) be1
            have re0 : (wF.setCell ⟨t8, 0, none⟩ (.int .i64 42)).cell? ⟨t8, 0, none⟩ = some (.int .i64 42) := (cell_of be0).trans (by simp)
            have re1 : ((wF.setCell ⟨t8, 0, none⟩ (.int .i64 42)).setCell ⟨t8, 1, none⟩ (.int .i64 0)).cell? ⟨t8, 1, none⟩ = some (.int .i64 0) := (cell_of be1).trans (by simp)
            have re2 : (((wF.setCell ⟨t8, 0, none⟩ (.int .i64 42)).setCell ⟨t8, 1, none⟩ (.int .i64 0)).setCell ⟨t8, 2, none⟩ (.int .u16 A)).cell? ⟨t8, 2, none⟩ = some (.int .u16 A) := (cell_of be2).trans (by simp)
            have LZ := Lib.hid (((LWG.setCell (g := t8) (i := 0) (by have := HT.out; omega) (.int .i64 42)).setCell (g := t8) (i := 1) (by have := HT.out; omega) (.int .i64 0)).setCell (g := t8) (i := 2) (by have := HT.out; omega) (.int .u16 A))
            clear LWG
            repeat (first | go_values | go_skip | go_guarded | go_step | go_upon)
            (try simp only [Exit.inBlock, Exit.then])
            refine bodyPost_ret (by simp [results, Tryz.results7, go_sem, re0, re1, re2]; try rfl) rfl ?_
            exact ⟨by rw [← HKE.out, ← HA.out], LZ.out⟩
          · 
            have h8 := R8.out
            have LWG := LWF.out
            have ce0 := cell_of (j := 0) h8
            have fe0 := free_of (j := 0) h8
            have be0 := set_blk (i := 0) (v := .int .i64 42) h8
            have ce1 := cell_of (j := 1) be0
            have fe1 := free_of (j := 1) be0
            have be1 := set_blk (i := 1) (v := .int .i64 0) be0
            have ce2 := cell_of (j := 2) be1
            have fe2 := free_of (j := 2) be1
            have be2 := set_blk (i := 2) (v := .int .u16 A) be1
            have re0 : (wF.setCell ⟨t8, 0, none⟩ (.int .i64 42)).cell? ⟨t8, 0, none⟩ = some (.int .i64 42) := (cell_of be0).trans (by simp)
            have re1 : ((wF.setCell ⟨t8, 0, none⟩ (.int .i64 42)).setCell ⟨t8, 1, none⟩ (.int .i64 0)).cell? ⟨t8, 1, none⟩ = some (.int .i64 0) := (cell_of be1).trans (by simp)
            have re2 : (((wF.setCell ⟨t8, 0, none⟩ (.int .i64 42)).setCell ⟨t8, 1, none⟩ (.int .i64 0)).setCell ⟨t8, 2, none⟩ (.int .u16 A)).cell? ⟨t8, 2, none⟩ = some (.int .u16 A) := (cell_of be2).trans (by simp)
            have LZ := Lib.hid (((LWG.setCell (g := t8) (i := 0) (by have := HT.out; omega) (.int .i64 42)).setCell (g := t8) (i := 1) (by have := HT.out; omega) (.int .i64 0)).setCell (g := t8) (i := 2) (by have := HT.out; omega) (.int .u16 A))
            clear LWG
            repeat (first | go_values | go_skip | go_guarded | go_step | go_upon)
            (try simp only [Exit.inBlock, Exit.then])
            refine bodyPost_ret (by simp [results, Tryz.results7, go_sem, re0, re1, re2]; try rfl) rfl ?_
            exact ⟨by rw [← HKE.out, ← HA.out], LZ.out⟩
        · have n134 : (O == 134) = false := by simpa using hO1
          have n144 : (O == 144) = false := by simpa using hO2
          have n145 : (O == 145) = false := by simpa using hO3
          have hef := effect_bad hru wF tF t12 b s5 m2 (.slice (some ⟨wk, 0, none⟩) 0 cw) (LF.out.some FD.out) (LF.out.some MD.out) (LF.out.some QD.out) (by have := HT12b.out; omega) (by have := HT12b.out; omega) (by have := HT12b.out; omega)
          go_upto_region 23 with (first
            | (go_at_call 22
               refine hef.mono ?_
               rintro e wG ⟨rfl, KG⟩))
          clear v0 v1 v2 v3 v4 v5 v6 p0 p1 hef
          have h8 := (KG.block t8 (heap_lt R8.out) (by have := HT12b.out; have := HTF.out; have := HSS.out; have := heap_lt R5.out; omega) (by have := HT12b.out; have := HTF.out; have := HSS.out; have := heap_lt R5.out; omega)).trans R8.out
          have h11 := (KG.block t11 (heap_lt (LF.out.some PD.out)) (by have := HT12b.out; omega) (by have := HT12b.out; omega)).trans (LF.out.some PD.out)
          obtain ⟨p0, p1⟩ : wG.cell? ⟨t11, 0, none⟩ = some (.int .i64 0) ∧ wG.cell? ⟨t11, 1, none⟩ = some (.int .u16 A) := ⟨cell_of h11, cell_of h11⟩
          have LWG : Low w.heap.size w wG := LWF.out.trans ⟨KG.os, KG.out, KG.size, fun q hq => KG.block q (by have := LWF.out.size; omega) (by have := HT12b.out; have := HTF.out; have := HSS.out; have := L5.out.size; omega) (by have := HT12b.out; have := HTF.out; have := HSS.out; have := L5.out.size; omega)⟩
          have ce0 := cell_of (j := 0) h8
          have fe0 := free_of (j := 0) h8
          have be0 := set_blk (i := 0) (v := .int .i64 43) h8
          have ce1 := cell_of (j := 1) be0
          have fe1 := free_of (j := 1) be0
          have be1 := set_blk (i := 1) (v := .int .i64 0) be0
          have ce2 := cell_of (j := 2) be1
          have fe2 := free_of (j := 2) be1
          have be2 := set_blk (i := 2) (v := .int .u16 A) be1
          have re0 : (wG.setCell ⟨t8, 0, none⟩ (.int .i64 43)).cell? ⟨t8, 0, none⟩ = some (.int .i64 43) := (cell_of be0).trans (by simp)
          have re1 : ((wG.setCell ⟨t8, 0, none⟩ (.int .i64 43)).setCell ⟨t8, 1, none⟩ (.int .i64 0)).cell? ⟨t8, 1, none⟩ = some (.int .i64 0) := (cell_of be1).trans (by simp)
          have re2 : (((wG.setCell ⟨t8, 0, none⟩ (.int .i64 43)).setCell ⟨t8, 1, none⟩ (.int .i64 0)).setCell ⟨t8, 2, none⟩ (.int .u16 A)).cell? ⟨t8, 2, none⟩ = some (.int .u16 A) := (cell_of be2).trans (by simp)
          have LZ := Lib.hid (((LWG.setCell (g := t8) (i := 0) (by have := HT.out; omega) (.int .i64 43)).setCell (g := t8) (i := 1) (by have := HT.out; omega) (.int .i64 0)).setCell (g := t8) (i := 2) (by have := HT.out; omega) (.int .u16 A))
          clear LWG
          repeat (first | go_values | go_skip | go_guarded | go_step | go_upon)
          (try simp only [Exit.inBlock, Exit.then])
          refine bodyPost_ret (by simp [results, Tryz.results7, go_sem, re0, re1, re2]; try rfl) rfl ?_
          exact ⟨by rw [← HKE.out, ← HA.out], LZ.out⟩

end Go.Proofs.YtjkaoejcdboaiaaGreat
