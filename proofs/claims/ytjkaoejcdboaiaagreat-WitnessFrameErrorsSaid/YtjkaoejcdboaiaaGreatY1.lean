/- successors; effect, of an instruction without effect. -/
import Derived.Test.YtjkaoejcdboaiaaGreatV0
import Derived.MapKept
import Derived.ChangeMaps5
set_option linter.unusedSimpArgs false
set_option linter.unusedVariables false
set_option linter.unusedSectionVars false
/- image.Check, of an image of one bank. -/
namespace Go.Proofs.YtjkaoejcdboaiaaGreat
open Go.RowKit Go.Eng
set_option linter.unusedVariables false
set_option linter.unusedSectionVars false
set_option maxRecDepth 100000

/-- An image of one bank. -/
abbrev imgV (b : Nat) : Value := .agg #[.slice (some ⟨b, 0, none⟩) 1 1, .int .u16 16, .int .u16 0, .slice none 0 0, .slice none 0 0]
abbrev imgC (b : Nat) : Obj := .cells #[.slice (some ⟨b, 0, none⟩) 1 1, .int .u16 16, .int .u16 0, .slice none 0 0, .slice none 0 0] 37
/-- What a box of an image holds. -/
def ImgAt (t b : Nat) (w : World) : Prop :=
  w.cell? ⟨t, 0, none⟩ = some (.slice (some ⟨b, 0, none⟩) 1 1) ∧ w.cell? ⟨t, 1, none⟩ = some (.int .u16 16) ∧ w.cell? ⟨t, 2, none⟩ = some (.int .u16 0) ∧ w.cell? ⟨t, 3, none⟩ = some (.slice none 0 0) ∧ w.cell? ⟨t, 4, none⟩ = some (.slice none 0 0)
theorem ImgAt.low {t b : Nat} {w w' : World} (h : ImgAt t b w) (l : Low w.heap.size w w') : ImgAt t b w' := ⟨l.cell h.1, l.cell h.2.1, l.cell h.2.2.1, l.cell h.2.2.2.1, l.cell h.2.2.2.2⟩
theorem ImgAt.new (w : World) (b : Nat) : ImgAt w.heap.size b (w.alloc (imgC b)) := by
  have h := heap_new w (imgC b)
  exact ⟨cell_of h, cell_of h, cell_of h, cell_of h, cell_of h⟩
theorem odd_any (s : ByteArray) (hs : s.size = 4096) (w : World) : Calls Tryz.prog 36 #[.string s] w (fun e w' => e = .returned (.bool false) ∧ w' = w) := by
  go_enter Tryz.func36, Tryz.ntmps36
  go_wp2
  go_ret
  exact ⟨rfl, rfl⟩
theorem index_any (w : World) (b : Nat) (s : ByteArray) (hs : s.size = 4096) (hb : w.cell? ⟨b, 0, none⟩ = some (.string s)) : Calls Tryz.prog 65 #[.slice (some ⟨b, 0, none⟩) 1 1, .func (.func 36) #[] #[]] w (fun e w' => e = .returned (.int .i64 (-1)) ∧ w' = w) := by
  have HB := Lib.hid hb
  clear hb
  go_enter Tryz.func65, Tryz.ntmps65
  go_wp2_with fail
  go_loopw [8] (fun i wr => (i = .int .i64 0 ∨ i = .int .i64 1) ∧ wr = w) (fun i _ => 1 - (intOf i).toNat)
  case atStart => exact ⟨.inl rfl, rfl⟩
  case round =>
    obtain ⟨rfl | rfl, rfl⟩ := hrel
    · have hb := HB.out
      go_wp2_with (first
        | (go_at_call 36; refine (odd_any s hs _).mono ?_; rintro e u ⟨rfl, hu⟩; rw [hu]; clear hu u))
      exact ⟨⟨.inr rfl, by trivial⟩, by decide⟩
    · go_wp2_with fail
      go_ret
      exact ⟨rfl, rfl⟩
theorem contains_any (w : World) (b : Nat) (s : ByteArray) (hs : s.size = 4096) (hb : w.cell? ⟨b, 0, none⟩ = some (.string s)) : Calls Tryz.prog 37 #[.slice (some ⟨b, 0, none⟩) 1 1, .func (.func 36) #[] #[]] w (fun e w' => e = .returned (.bool false) ∧ w' = w) := by
  have hi := index_any w b s hs hb
  clear hb
  go_enter Tryz.func37, Tryz.ntmps37
  go_wp2_with (first
    | (go_at_call 65; refine hi.mono ?_; rintro e u ⟨rfl, hu⟩; rw [hu]; clear hu u))
  go_ret
  exact ⟨rfl, rfl⟩
theorem object_any (w : World) (n : Int) : Calls Tryz.prog 38 #[.slice none 0 0, .int .i64 n] w (fun e w' => e = .returned (.int .i64 (-1)) ∧ w' = w) := by
  go_enter Tryz.func38, Tryz.ntmps38
  go_wp2_with fail
  go_loopw [9] (fun i wr => i = .int .i64 0 ∧ wr = w) (fun i _ => 0)
  case atStart => exact ⟨rfl, rfl⟩
  case round =>
    obtain ⟨rfl, rfl⟩ := hrel
    go_wp2_with fail
    go_ret
    exact ⟨rfl, rfl⟩
theorem reloc_any (w : World) (b : Nat) : Calls Tryz.prog 39 #[imgV b] w (fun e w' => e = .returned (.int .i64 (-1)) ∧ Low w.heap.size w w') := by
  have ha := ImgAt.new w b
  have l1 : Low w.heap.size w (w.alloc (imgC b)) := (Low.refl _ _).alloc (Nat.le_refl _) _
  go_enter Tryz.func39, Tryz.ntmps39
  go_upto_region 1 with fail
  obtain ⟨t1, ht1⟩ : ∃ t, t = w.heap.size := ⟨_, rfl⟩
  rw [← ht1] at ha ⊢
  have HT := Lib.hid ht1
  clear ht1
  generalize w.alloc (imgC b) = w1 at l1 ha ⊢
  have L1 := Lib.hid l1
  obtain ⟨y0, y1, y2, y3, y4⟩ := ha
  go_wp2_with fail
  clear y0 y1 y2 y3 y4 l1
  go_loopw [12] (fun i wr => i = .int .i64 0 ∧ wr = w1) (fun i _ => 0)
  case atStart => exact ⟨rfl, rfl⟩
  case round =>
    obtain ⟨rfl, rfl⟩ := hrel
    go_wp2_with fail
    go_ret
    exact ⟨rfl, L1.out⟩
set_option maxHeartbeats 2000000 in
theorem icheck_any (w : World) (b : Nat) (s : ByteArray) (hs : s.size = 4096) (hb : w.heap[b]? = some (.cells #[.string s] 9 (0, 0))) : Calls Tryz.prog 17 #[imgV b] w (fun e w' => e = .returned (.int .i64 0) ∧ Low w.heap.size w w') := by
  have ha := ImgAt.new w b
  have l1 : Low w.heap.size w (w.alloc (imgC b)) := (Low.refl _ _).alloc (Nat.le_refl _) _
  have hb1 := cell_of (j := 0) (l1.some hb)
  clear hb
  go_enter Tryz.func17, Tryz.ntmps17
  go_upto_region 1 with fail
  obtain ⟨t1, ht1⟩ : ∃ t, t = w.heap.size := ⟨_, rfl⟩
  rw [← ht1] at ha ⊢
  have HT := Lib.hid ht1
  clear ht1
  generalize w.alloc (imgC b) = w1 at l1 ha hb1 ⊢
  have L1 := Lib.hid l1
  have hco := contains_any w1 b s hs hb1
  obtain ⟨y0, y1, y2, y3, y4⟩ := ha
  have hob := object_any w1 1
  have hre := reloc_any w1 b
  clear l1 hb1
  go_wp2_with (first
    | (go_at_call 37; refine hco.mono ?_; rintro e u ⟨rfl, hu⟩; rw [hu]; clear hu u)
    | (go_at_call 38; refine hob.mono ?_; rintro e u ⟨rfl, hu⟩; rw [hu]; clear hu u)
    | (go_at_call 39; refine hre.mono ?_; rintro e w2 ⟨rfl, l2⟩; have L2 := Lib.hid (L1.out.trans (l2.mono L1.out.size)); clear l2))
  go_ret
  exact ⟨rfl, L2.out⟩
end Go.Proofs.YtjkaoejcdboaiaaGreat
/- fetch; image.Next; isa.Falls. -/
namespace Go.Proofs.YtjkaoejcdboaiaaGreat
open Go.RowKit Go.Eng
set_option linter.unusedVariables false
set_option linter.unusedSectionVars false
set_option maxRecDepth 100000

set_option maxHeartbeats 4000000 in
theorem fetch_of (w : World) (b : Nat) (S : ByteArray) (hb : w.heap[b]? = some (.cells #[.string S] 9 (0, 0))) (hS : S.size = 4096) (a : Int) (h0 : 0 ≤ a) (h1 : a < 4096) (op d s imm aux bank size er : Int)
    (hd : ∀ u, Calls Tryz.prog 42 #[.string (S.extract a.toNat (a.toNat + min 7 (4096 - a.toNat)))] u (fun e w' => e = .returned (.tuple #[insV op d s imm aux bank size, .int .i64 er]) ∧ Low u.heap.size u w')) :
    Calls Tryz.prog 21 #[imgV b, plV a] w (fun e w' => e = .returned (.tuple #[insV op d s imm aux bank size, .int .i64 er]) ∧ Low w.heap.size w w') := by
  obtain ⟨q, hq⟩ : ∃ q, w.heap.size = q := ⟨_, rfl⟩
  obtain ⟨a2, q2, u2⟩ := alloc_at (imgC b) hq
  obtain ⟨a3, q3, u3⟩ := alloc_at (.cells #[.int .i64 0, .int .u16 a] 40) q2
  obtain ⟨a4, q4, u4⟩ := alloc_at (insC 0 0 0 0 0 0 0) q3
  have a2 := u4 _ _ (u3 _ _ a2)
  have a3 := u4 _ _ a3
  have l0 : Low w.heap.size w (((w.alloc (imgC b)).alloc (.cells #[.int .i64 0, .int .u16 a] 40)).alloc (insC 0 0 0 0 0 0 0)) := (((Low.refl _ _).alloc (Nat.le_refl _) _).alloc (by simp) _).alloc (by simp; omega) _
  clear u2 u3 u4 q2 q3 q4
  go_enter Tryz.func21, Tryz.ntmps21
  go_upto_region 1 with fail
  have HQ := Lib.hid hq
  rw [hq] at l0
  obtain ⟨t2, ht2⟩ : ∃ t, t = q := ⟨_, rfl⟩
  obtain ⟨t3, ht3⟩ : ∃ t, t = q + 1 := ⟨_, rfl⟩
  obtain ⟨t4, ht4⟩ : ∃ t, t = q + 1 + 1 := ⟨_, rfl⟩
  rw [← ht4] at a4 ⊢
  rw [← ht3] at a3 ⊢
  rw [show (Value.pointer (some { block := q, off := 0 })) = Value.pointer (some { block := t2, off := 0 }) by rw [ht2]]
  rw [← ht2] at a2
  have HT4 : Hid (q ≤ t4) := Lib.hid (by omega)
  clear ht2 ht3 ht4 hq
  generalize (((w.alloc (imgC b)).alloc (.cells #[.int .i64 0, .int .u16 a] 40)).alloc (insC 0 0 0 0 0 0 0)) = w1 at l0 a2 a3 a4 ⊢
  have L0 := Lib.hid l0; have A4 := Lib.hid a4
  have hb1 : w1.cell? ⟨b, 0, none⟩ = some (.string S) := by
    have := l0.obj (by have := HQ.out; have := heap_lt hb; omega) hb
    exact cell_of this
  have hco := code_at a h0 h1 b 0 1 1 (by omega) (.int .u16 16) (.int .u16 0) (.slice none 0 0) (.slice none 0 0) S w1 hb1 (by omega) 7 (by omega)
  rw [hS] at hco
  obtain ⟨y0, y1, y2, y3, y4⟩ : ImgAt t2 b w1 := ⟨cell_of a2, cell_of a2, cell_of a2, cell_of a2, cell_of a2⟩
  obtain ⟨g0, g1⟩ : w1.cell? ⟨t3, 0, none⟩ = some (.int .i64 0) ∧ w1.cell? ⟨t3, 1, none⟩ = some (.int .u16 a) := ⟨cell_of a3, cell_of a3⟩
  have HD := Lib.hid hd
  clear hb1 hb hd l0 a2 a3 a4
  go_wp2_with (first
    | (go_at_call 43
       refine hco.mono ?_
       rintro e' w2 ⟨rfl, l2⟩
       have L2 := Lib.hid l2.lo
       have hde := HD.out w2
       clear l2)
    | (go_at_call 42
       refine hde.mono ?_
       rintro e' wv ⟨rfl, lv⟩
       have LV := Lib.hid (L2.out.trans (lv.mono L2.out.size))
       have h4 := LV.out.some A4.out
       have cz0 := cell_of (j := 0) h4
       have fz0 := free_of (j := 0) h4
       have bz0 := set_blk (i := 0) (v := .int .i64 op) h4
       have cz1 := cell_of (j := 1) bz0
       have fz1 := free_of (j := 1) bz0
       have bz1 := set_blk (i := 1) (v := .int .i64 d) bz0
       have cz2 := cell_of (j := 2) bz1
       have fz2 := free_of (j := 2) bz1
       have bz2 := set_blk (i := 2) (v := .int .i64 s) bz1
       have cz3 := cell_of (j := 3) bz2
       have fz3 := free_of (j := 3) bz2
       have bz3 := set_blk (i := 3) (v := .int .u16 imm) bz2
       have cz4 := cell_of (j := 4) bz3
       have fz4 := free_of (j := 4) bz3
       have bz4 := set_blk (i := 4) (v := .int .u16 aux) bz3
       have cz5 := cell_of (j := 5) bz4
       have fz5 := free_of (j := 5) bz4
       have bz5 := set_blk (i := 5) (v := .int .i64 bank) bz4
       have cz6 := cell_of (j := 6) bz5
       have fz6 := free_of (j := 6) bz5
       have bz6 := set_blk (i := 6) (v := .int .i64 size) bz5
       have rz0 : (wv.setCell ⟨t4, 0, none⟩ (.int .i64 op)).cell? ⟨t4, 0, none⟩ = some (.int .i64 op) := (cell_of bz0).trans (by simp)
       have rz1 : ((wv.setCell ⟨t4, 0, none⟩ (.int .i64 op)).setCell ⟨t4, 1, none⟩ (.int .i64 d)).cell? ⟨t4, 1, none⟩ = some (.int .i64 d) := (cell_of bz1).trans (by simp)
       have rz2 : (((wv.setCell ⟨t4, 0, none⟩ (.int .i64 op)).setCell ⟨t4, 1, none⟩ (.int .i64 d)).setCell ⟨t4, 2, none⟩ (.int .i64 s)).cell? ⟨t4, 2, none⟩ = some (.int .i64 s) := (cell_of bz2).trans (by simp)
       have rz3 : ((((wv.setCell ⟨t4, 0, none⟩ (.int .i64 op)).setCell ⟨t4, 1, none⟩ (.int .i64 d)).setCell ⟨t4, 2, none⟩ (.int .i64 s)).setCell ⟨t4, 3, none⟩ (.int .u16 imm)).cell? ⟨t4, 3, none⟩ = some (.int .u16 imm) := (cell_of bz3).trans (by simp)
       have rz4 : (((((wv.setCell ⟨t4, 0, none⟩ (.int .i64 op)).setCell ⟨t4, 1, none⟩ (.int .i64 d)).setCell ⟨t4, 2, none⟩ (.int .i64 s)).setCell ⟨t4, 3, none⟩ (.int .u16 imm)).setCell ⟨t4, 4, none⟩ (.int .u16 aux)).cell? ⟨t4, 4, none⟩ = some (.int .u16 aux) := (cell_of bz4).trans (by simp)
       have rz5 : ((((((wv.setCell ⟨t4, 0, none⟩ (.int .i64 op)).setCell ⟨t4, 1, none⟩ (.int .i64 d)).setCell ⟨t4, 2, none⟩ (.int .i64 s)).setCell ⟨t4, 3, none⟩ (.int .u16 imm)).setCell ⟨t4, 4, none⟩ (.int .u16 aux)).setCell ⟨t4, 5, none⟩ (.int .i64 bank)).cell? ⟨t4, 5, none⟩ = some (.int .i64 bank) := (cell_of bz5).trans (by simp)
       have rz6 : (((((((wv.setCell ⟨t4, 0, none⟩ (.int .i64 op)).setCell ⟨t4, 1, none⟩ (.int .i64 d)).setCell ⟨t4, 2, none⟩ (.int .i64 s)).setCell ⟨t4, 3, none⟩ (.int .u16 imm)).setCell ⟨t4, 4, none⟩ (.int .u16 aux)).setCell ⟨t4, 5, none⟩ (.int .i64 bank)).setCell ⟨t4, 6, none⟩ (.int .i64 size)).cell? ⟨t4, 6, none⟩ = some (.int .i64 size) := (cell_of bz6).trans (by simp)
       clear lv))
  have LZ := ((((((((L0.out.trans (LV.out.mono (by have := L0.out.size; have := HQ.out; omega))).setCell (g := t4) (i := 0) HT4.out (.int .i64 op)).setCell (g := t4) (i := 1) HT4.out (.int .i64 d)).setCell (g := t4) (i := 2) HT4.out (.int .i64 s)).setCell (g := t4) (i := 3) HT4.out (.int .u16 imm)).setCell (g := t4) (i := 4) HT4.out (.int .u16 aux)).setCell (g := t4) (i := 5) HT4.out (.int .i64 bank)).setCell (g := t4) (i := 6) HT4.out (.int .i64 size))
  (try simp only [Exit.inBlock, Exit.then])
  refine bodyPost_ret (by simp [results, Tryz.results21, go_sem, rz0, rz1, rz2, rz3, rz4, rz5, rz6]; try rfl) rfl ?_
  exact ⟨rfl, by rw [HQ.out]; exact LZ⟩
set_option maxHeartbeats 2000000 in
theorem next_pl (w : World) (a n : Int) (h0 : 0 ≤ a) (h1 : 0 < n) (h2 : a + n < 4096) :
    Calls Tryz.prog 48 #[plV a, .int .i64 n] w (fun e w' => e = .returned (.tuple #[plV (a + n), .bool true]) ∧ Low w.heap.size w w') := by
  have e1 : a % 4096 = a := Int.emod_eq_of_lt h0 (by omega)
  have e2 : IntKind.i64.wrap a = a := Go.IntWalk.i64_in _ (by omega)
  have e3 : IntKind.i64.wrap (4096 - a) = 4096 - a := Go.IntWalk.i64_in _ (by omega)
  have e4 : IntKind.i64.wrap (-a) = -a := Go.IntWalk.i64_in _ (by omega)
  have e5 : IntKind.i64.wrap (a + n) = a + n := Go.IntWalk.i64_in _ (by omega)
  have e6 : IntKind.u16.wrap (a + n) = a + n := Go.IntWalk.u16_in _ (by omega)
  have e7 : decide (n < -a) = false := by simp; omega
  have e8 : decide (n ≥ 4096 - a) = false := by simp; omega
  have e9 : decide (4096 - a ≤ n) = false := by simp; omega
  obtain ⟨q, hq⟩ : ∃ q, w.heap.size = q := ⟨_, rfl⟩
  obtain ⟨a2, q2, u2⟩ := alloc_at (.cells #[.int .i64 0, .int .u16 a] 40) hq
  obtain ⟨a4, q4, u4⟩ := alloc_at (.cells #[.int .i64 0, .int .u16 0] 40) q2
  have a2 := u4 _ _ a2
  have l0 : Low w.heap.size w ((w.alloc (.cells #[.int .i64 0, .int .u16 a] 40)).alloc (.cells #[.int .i64 0, .int .u16 0] 40)) := ((Low.refl _ _).alloc (Nat.le_refl _) _).alloc (by simp) _
  clear u2 u4 q2 q4
  go_enter Tryz.func48, Tryz.ntmps48
  go_upto_region 1 with fail
  have HQ := Lib.hid hq
  rw [hq] at l0
  obtain ⟨t2, ht2⟩ : ∃ t, t = q := ⟨_, rfl⟩
  obtain ⟨t4, ht4⟩ : ∃ t, t = q + 1 := ⟨_, rfl⟩
  rw [← ht4] at a4 ⊢
  rw [show (Value.pointer (some { block := q, off := 0 })) = Value.pointer (some { block := t2, off := 0 }) by rw [ht2]]
  rw [← ht2] at a2
  have HT4 : Hid (q ≤ t4) := Lib.hid (by omega)
  clear ht2 ht4 hq
  generalize ((w.alloc (.cells #[.int .i64 0, .int .u16 a] 40)).alloc (.cells #[.int .i64 0, .int .u16 0] 40)) = w1 at l0 a2 a4 ⊢
  have L0 := Lib.hid l0; have A4 := Lib.hid a4; have A2 := Lib.hid a2
  obtain ⟨g0, g1⟩ : w1.cell? ⟨t2, 0, none⟩ = some (.int .i64 0) ∧ w1.cell? ⟨t2, 1, none⟩ = some (.int .u16 a) := ⟨cell_of a2, cell_of a2⟩
  clear l0 a2 a4
  have hco := code_any a (by omega) w1
  go_wp2_with (first
    | (go_at_call 80
       refine hco.mono ?_
       rintro e' wv ⟨rfl, hv⟩
       have lv : Low w1.heap.size w1 wv := by rw [hv]; exact (Low.refl _ _).alloc (Nat.le_refl _) _
       have LV := Lib.hid lv
       have h4 := LV.out.some A4.out
       obtain ⟨x0, x1⟩ : wv.cell? ⟨t2, 0, none⟩ = some (.int .i64 0) ∧ wv.cell? ⟨t2, 1, none⟩ = some (.int .u16 a) := ⟨cell_of (lv.some A2.out), cell_of (lv.some A2.out)⟩
       have cz0 := cell_of (j := 0) h4
       have fz0 := free_of (j := 0) h4
       have bz0 := set_blk (i := 0) (v := .int .i64 0) h4
       have cz1 := cell_of (j := 1) bz0
       have fz1 := free_of (j := 1) bz0
       have bz1 := set_blk (i := 1) (v := .int .u16 (a + n)) bz0
       have rz0 : (wv.setCell ⟨t4, 0, none⟩ (.int .i64 0)).cell? ⟨t4, 0, none⟩ = some (.int .i64 0) := (cell_of bz0).trans (by simp)
       have rz1 : ((wv.setCell ⟨t4, 0, none⟩ (.int .i64 0)).setCell ⟨t4, 1, none⟩ (.int .u16 (a + n))).cell? ⟨t4, 1, none⟩ = some (.int .u16 (a + n)) := (cell_of bz1).trans (by simp)
       clear hv lv))
  have LZ := ((L0.out.trans (LV.out.mono (by have := L0.out.size; have := HQ.out; omega))).setCell (g := t4) (i := 0) HT4.out (.int .i64 0)).setCell (g := t4) (i := 1) HT4.out (.int .u16 (a + n))
  (try simp only [Exit.inBlock, Exit.then])
  refine bodyPost_ret (by simp [results, Tryz.results48, go_sem, rz0, rz1]; try rfl) rfl ?_
  exact ⟨rfl, by rw [HQ.out]; exact LZ⟩
/-- An instruction that goes on to the next one, and touches no stack. -/
structure GI (op d s imm size : Int) : Prop where
  lo : 32 ≤ op
  hi : op ≤ 78
  z0 : 0 < size
  z1 : size ≤ 4
  valid : ∀ w, Calls Tryz.prog 72 #[insV op d s imm 0 0 size] w (fun e w' => e = .returned (.bool true) ∧ Low w.heap.size w w')
set_option maxHeartbeats 2000000 in
theorem falls_any (w : World) (op d s imm size : Int) (h : GI op d s imm size) :
    Calls Tryz.prog 47 #[insV op d s imm 0 0 size] w (fun e w' => e = .returned (.bool true) ∧ Low w.heap.size w w') := by
  have o0 := h.lo
  have o1 := h.hi
  have H := Lib.hid h
  have n1 : (op == 1) = false := by simpa using (by omega : ¬ op = 1)
  have n2 : (op == 2) = false := by simpa using (by omega : ¬ op = 2)
  have n3 : (op == 3) = false := by simpa using (by omega : ¬ op = 3)
  have n4 : (op == 128) = false := by simpa using (by omega : ¬ op = 128)
  have n5 : (op == 129) = false := by simpa using (by omega : ¬ op = 129)
  have n6 : (op == 131) = false := by simpa using (by omega : ¬ op = 131)
  have n7 : (op == 133) = false := by simpa using (by omega : ¬ op = 133)
  have n8 : (op == 134) = false := by simpa using (by omega : ¬ op = 134)
  clear h
  have ha := InsAt.new w op d s imm 0 0 size
  have l1 : Low w.heap.size w (w.alloc (insC op d s imm 0 0 size)) := (Low.refl _ _).alloc (Nat.le_refl _) _
  go_enter Tryz.func47, Tryz.ntmps47
  go_upto_region 1 with fail
  obtain ⟨t1, ht1⟩ : ∃ t, t = w.heap.size := ⟨_, rfl⟩
  rw [← ht1] at ha ⊢
  have HT := Lib.hid ht1
  clear ht1
  generalize w.alloc (insC op d s imm 0 0 size) = w1 at l1 ha ⊢
  have L1 := Lib.hid l1
  obtain ⟨y0, y1, y2, y3, y4, y5, y6⟩ := ha
  have hva := H.out.valid w1
  clear l1
  go_wp2_with (first
    | (go_at_call 72; refine hva.mono ?_; rintro e w2 ⟨rfl, l2⟩; have L2 := Lib.hid (L1.out.trans (l2.mono L1.out.size)); clear l2))
  go_ret
  exact ⟨rfl, L2.out⟩
end Go.Proofs.YtjkaoejcdboaiaaGreat
/- Maps with places as keys. -/
namespace Go.Proofs.YtjkaoejcdboaiaaGreat
open Go.RowKit Go.Eng
set_option linter.unusedVariables false
set_option linter.unusedSectionVars false
set_option maxRecDepth 100000

theorem plEq (a b : Int) (w : World) : (Op.equal 40 (plV a) (plV b)).run Tryz.prog w = .ok (a == b) w := by
  by_cases h : a = b
  · simp [go_sem, plV, Op.equal, Op.maxDepth, h]
  · simp [go_sem, plV, Op.equal, Op.maxDepth, h]
theorem checkPl (b : Bool) (a : Int) (w : World) : (Instr.checkKey b 10000 40 (plV a)).run Tryz.prog w = .ok () w := by kernel_rfl
/-- Entries whose keys are other places. -/
def Others (a : Int) (es : List MapEntry) : Prop := ∀ e ∈ es, ∃ b, e.key = plV b ∧ b ≠ a
theorem asking_none (a : Int) (w : World) : ∀ (es : List MapEntry) (i : Nat), Others a es → (Instr.findAsking 40 (plV a) es i).run Tryz.prog w = .ok none w := by
  intro es
  induction es with
  | nil => intro i _; rfl
  | cons e es ih =>
    intro i h
    obtain ⟨b, hk, hne⟩ := h e (List.mem_cons_self ..)
    have hb : (a == b) = false := by simpa using fun h => hne h.symm
    simp only [Instr.findAsking, Sem.run_bind, hk, plEq, hb, Result.andThen_ok, Bool.false_eq_true, if_false]
    exact ih _ fun e he => h e (List.mem_cons_of_mem _ he)
theorem asking_last (a : Int) (w : World) (v : Value) (c : Nat) : ∀ (es : List MapEntry) (i : Nat), Others a es → (Instr.findAsking 40 (plV a) (es ++ [⟨plV a, v, c⟩]) i).run Tryz.prog w = .ok (some (i + es.length, v)) w := by
  intro es
  induction es with
  | nil => intro i _; simp only [List.nil_append, Instr.findAsking, Sem.run_bind, plEq, Result.andThen_ok, beq_self_eq_true, if_true, Sem.run_pure]; rfl
  | cons e es ih =>
    intro i h
    obtain ⟨b, hk, hne⟩ := h e (List.mem_cons_self ..)
    have hb : (a == b) = false := by simpa using fun h => hne h.symm
    simp only [List.cons_append, Instr.findAsking, Sem.run_bind, hk, plEq, hb, Result.andThen_ok, Bool.false_eq_true, if_false]
    rw [ih (i + 1) fun e he => h e (List.mem_cons_of_mem _ he)]
    simp; omega
theorem now_none (a : Int) (e : MapEntry) (es : List MapEntry) (i : Nat) : Instr.findNow (.struct (Tryz.prog.fieldsOf 40)) (plV a) (e :: es) i = none := rfl
theorem findKey_none (a : Int) (w : World) (es : List MapEntry) (h : Others a es) : (Instr.findKey 40 (plV a) es).run Tryz.prog w = .ok none w := by
  have hu : Tryz.prog.underlying 40 = some (.struct (Tryz.prog.fieldsOf 40)) := by kernel_rfl
  simp only [Instr.findKey, Sem.run_bind, run_underlying hu, Result.andThen_ok]
  cases es with
  | nil => rfl
  | cons e es => rw [now_none]; exact asking_none a w _ 0 h
theorem findKey_last (a : Int) (w : World) (v : Value) (c : Nat) (es : List MapEntry) (h : Others a es) : (Instr.findKey 40 (plV a) (es ++ [⟨plV a, v, c⟩])).run Tryz.prog w = .ok (some (es.length, v)) w := by
  have hu : Tryz.prog.underlying 40 = some (.struct (Tryz.prog.fieldsOf 40)) := by kernel_rfl
  simp only [Instr.findKey, Sem.run_bind, run_underlying hu, Result.andThen_ok]
  have := asking_last a w v c es 0 h
  rw [Nat.zero_add] at this
  cases es with
  | nil => exact this
  | cons e es => rw [List.cons_append, now_none]; exact this
theorem zero78 (w : World) : (zeroValue 78).run Tryz.prog w = .ok (.agg #[.int .i64 0, .int .i64 0, .map none]) w := by kernel_rfl
theorem lookup_new (a : Int) (w : World) (g : Nat) (es : Array MapEntry) (c : Nat) (hg : w.heap[g]? = some (.map es c)) (h : Others a es.toList) :
    (Instr.lookup 71 (.map (some g)) (plV a) true).run Tryz.prog w = .ok (.tuple #[.agg #[.int .i64 0, .int .i64 0, .map none], .bool false]) w := by
  have ht : Tryz.prog.underlying 71 = some (.map 40 78) := by kernel_rfl
  simp only [Instr.lookup, Sem.run_bind, run_underlying ht, Result.andThen_ok, MapKept.run_getObj_map hg, Sem.run_pure, checkPl, findKey_none a w _ h, zero78, if_true]
theorem lookup_last (a : Int) (w : World) (g : Nat) (es : Array MapEntry) (v : Value) (b c : Nat) (hg : w.heap[g]? = some (.map (es.push ⟨plV a, v, b⟩) c)) (h : Others a es.toList) :
    (Instr.lookup 71 (.map (some g)) (plV a) false).run Tryz.prog w = .ok v w := by
  have ht : Tryz.prog.underlying 71 = some (.map 40 78) := by kernel_rfl
  have := findKey_last a w v b es.toList h
  rw [← Array.toList_push] at this
  simp only [Instr.lookup, Sem.run_bind, run_underlying ht, Result.andThen_ok, MapKept.run_getObj_map hg, Sem.run_pure, checkPl, this, Bool.false_eq_true, if_false]
theorem update_new (a : Int) (w : World) (g : Nat) (es : Array MapEntry) (v : Value) (c : Nat) (hg : w.heap[g]? = some (.map es c)) (h : Others a es.toList) :
    (Instr.mapUpdate 71 (.map (some g)) (plV a) v).run Tryz.prog w = .ok () (Go.ChangeMaps.setBlock w g (.map (es.push ⟨plV a, v, c⟩) (c + 1))) := by
  have ht : Tryz.prog.underlying 71 = some (.map 40 78) := by kernel_rfl
  simp [Instr.mapUpdate, run_underlying ht, MapKept.run_getObj_map hg, checkPl, findKey_none a w _ h, MapKept.run_setObj_map _ hg, Go.ChangeMaps.setBlock]
theorem setBlock_turned (w : World) (g : Nat) (o : Obj) : Turned g w (Go.ChangeMaps.setBlock w g o) := by
  refine ⟨rfl, rfl, by simp [Go.ChangeMaps.setBlock], fun q hq => ?_⟩
  simp only [Go.ChangeMaps.setBlock]
  rw [Array.getElem?_setIfInBounds, if_neg (fun h => hq h.symm)]
end Go.Proofs.YtjkaoejcdboaiaaGreat
namespace Go.Proofs.YtjkaoejcdboaiaaGreat
open Go.RowKit Go.Eng
set_option linter.unusedVariables false
set_option linter.unusedSectionVars false
set_option maxRecDepth 100000

theorem apP : Ap Tryz.prog 72 40 2 16 := ⟨Tryz.underlying72, by
  obtain ⟨ti, hti, h⟩ := info_of (α := Unit) (show (Tryz.prog.info? 40).map (fun i => (i.zero, i.size, i.bytes)) = some (some (.agg #[.int .i64 0, .int .u16 0]), 2, 16) by kernel_rfl)
  simp only [Prod.mk.injEq] at h
  exact ⟨ti, _, hti, h.1, h.2.1, h.2.2, rfl⟩, by decide, by decide⟩
def plC (a : Int) : List Value := [.int .i64 0, .int .u16 a]
theorem app_pl {w : World} {S : Nat} {v : Value} {n : Nat} {xs : List Value} (h : Own w S 40 2 v n xs) {g : Nat} {a : Int} (hg : w.heap[g]? = some (.cells #[.int .i64 0, .int .u16 a] 40 (0, 0))) (hn : n ≤ 1000) (hS : S ≤ w.heap.size) :
    ∃ v' w', (Builtin.append_ #[72, 72] 72 #[v, .slice (some ⟨g, 0, none⟩) 1 1]).run Tryz.prog w = .ok v' w' ∧ App1 w w' S 40 2 v v' n xs 1 (plC a) :=
  append_one (ty := 72) apP h (c := 1) (m := 1) hg rfl (by simp [Value.oneCell']) (by omega) hS
set_option maxHeartbeats 2000000 in
theorem succ_any (w : World) (b : Nat) (a op d s imm size : Int) (h : GI op d s imm size) (h0 : 0 ≤ a) (h1 : a + size < 4096) :
    Calls Tryz.prog 23 #[imgV b, insV op d s imm 0 0 size, plV a] w (fun e w' => ∃ g c, e = .returned (.tuple #[.slice (some ⟨g, 0, none⟩) 1 c, .int .i64 0]) ∧ w'.cell? ⟨g, 0, none⟩ = some (.int .i64 0) ∧ w'.cell? ⟨g, 1, none⟩ = some (.int .u16 (a + size)) ∧ Low w.heap.size w w') := by
  have o0 := h.lo
  have o1 := h.hi
  have z0 := h.z0
  have H := Lib.hid h
  clear h
  have e1 : decide (op ≥ 96) = false := by simp; omega
  have e2 : decide (96 ≤ op) = false := by simp; omega
  have e3 : (op == 133) = false := by simpa using (by omega : ¬ op = 133)
  obtain ⟨q, hq⟩ : ∃ q, w.heap.size = q := ⟨_, rfl⟩
  obtain ⟨a2, q2, u2⟩ := alloc_at (imgC b) hq
  obtain ⟨a3, q3, u3⟩ := alloc_at (insC op d s imm 0 0 size) q2
  obtain ⟨a4, q4, u4⟩ := alloc_at (.cells #[.int .i64 0, .int .u16 a] 40) q3
  have a2 := u4 _ _ (u3 _ _ a2)
  have a3 := u4 _ _ a3
  have l0 : Low w.heap.size w (((w.alloc (imgC b)).alloc (insC op d s imm 0 0 size)).alloc (.cells #[.int .i64 0, .int .u16 a] 40)) := (((Low.refl _ _).alloc (Nat.le_refl _) _).alloc (by simp) _).alloc (by simp; omega) _
  clear u2 u3 u4 q2 q3 q4
  go_enter Tryz.func23, Tryz.ntmps23
  go_upto_region 1 with fail
  have HQ := Lib.hid hq
  obtain ⟨t3, ht3⟩ : ∃ t, t = q := ⟨_, rfl⟩
  obtain ⟨t4, ht4⟩ : ∃ t, t = q + 1 := ⟨_, rfl⟩
  obtain ⟨t5, ht5⟩ : ∃ t, t = q + 1 + 1 := ⟨_, rfl⟩
  rw [← ht5] at a4 ⊢
  rw [← ht4] at a3 ⊢
  rw [show (Value.pointer (some { block := q, off := 0 })) = Value.pointer (some { block := t3, off := 0 }) by rw [ht3]]
  rw [← ht3] at a2
  clear ht3 ht4 ht5 hq
  generalize (((w.alloc (imgC b)).alloc (insC op d s imm 0 0 size)).alloc (.cells #[.int .i64 0, .int .u16 a] 40)) = w1 at l0 a2 a3 a4 ⊢
  have L0 := Lib.hid l0
  have HX : Hid (∀ w', Low w1.heap.size w1 w' → InsAt t4 op d s imm 0 0 size w' ∧ w'.cell? ⟨t5, 0, none⟩ = some (.int .i64 0) ∧ w'.cell? ⟨t5, 1, none⟩ = some (.int .u16 a)) :=
    Lib.hid fun w' l => ⟨⟨cell_of (l.some a3), cell_of (l.some a3), cell_of (l.some a3), cell_of (l.some a3), cell_of (l.some a3), cell_of (l.some a3), cell_of (l.some a3)⟩, cell_of (l.some a4), cell_of (l.some a4)⟩
  clear a2 a3 a4 l0
  obtain ⟨⟨y0, y1, y2, y3, y4, y5, y6⟩, g0, g1⟩ := HX.out _ (Low.refl _ _)
  have hfa := falls_any w1 op d s imm size H.out
  go_upto_region 13 with (first
    | (go_at_call 47; refine hfa.mono ?_; rintro e w2 ⟨rfl, l2⟩))
  clear y0 y1 y2 y3 y4 y5 y6 g0 g1 hfa
  have L2 := Lib.hid l2
  clear l2
  obtain ⟨⟨y0, y1, y2, y3, y4, y5, y6⟩, g0, g1⟩ := HX.out _ L2.out
  have hne := next_pl w2 a size h0 z0 h1
  go_upto_region 14 with (first
    | (go_at_call 48
       refine hne.mono ?_
       rintro e w3 ⟨rfl, l3⟩
       have L3 := Lib.hid (L2.out.trans (l3.mono L2.out.size))
       have a13 := heap_new w3 (.cells #[.int .i64 0, .int .u16 (a + size)] 40)
       have l4 : Low w3.heap.size w3 (w3.alloc (.cells #[.int .i64 0, .int .u16 (a + size)] 40)) := (Low.refl _ _).alloc (Nat.le_refl _) _
       clear l3))
  clear y0 y1 y2 y3 y4 y5 y6 g0 g1 hne
  obtain ⟨t13, ht13⟩ : ∃ t, t = w3.heap.size := ⟨_, rfl⟩
  rw [← ht13] at a13 ⊢
  clear ht13
  generalize w3.alloc (.cells #[.int .i64 0, .int .u16 (a + size)] 40) = w4 at a13 l4 ⊢
  have L4 := Lib.hid (L3.out.trans (l4.mono L3.out.size))
  clear l4
  obtain ⟨x0, x1⟩ : w4.cell? ⟨t13, 0, none⟩ = some (.int .i64 0) ∧ w4.cell? ⟨t13, 1, none⟩ = some (.int .u16 (a + size)) := ⟨cell_of a13, cell_of a13⟩
  have a5 := heap_new w4 (.cells #[.int .i64 0, .int .u16 (a + size)] 40)
  have l5 : Low w4.heap.size w4 (w4.alloc (.cells #[.int .i64 0, .int .u16 (a + size)] 40)) := (Low.refl _ _).alloc (Nat.le_refl _) _
  have hsz : w.heap.size ≤ (w4.alloc (.cells #[.int .i64 0, .int .u16 (a + size)] 40)).heap.size := Nat.le_trans L0.out.size (Nat.le_trans L4.out.size l5.size)
  obtain ⟨v', w6, hrun, happ⟩ := app_pl (S := w.heap.size) (Own.nil _ _ _ _) a5 (by omega) hsz
  have hlw := happ.low (Own.nil _ _ _ _) (Nat.le_refl _) hsz
  obtain ⟨g, c, cs, rfl, hg1, hg2, hg3, hown⟩ := happ.row (k := 1) rfl (by decide)
  have LE := Lib.hid (L0.out.trans ((L4.out.mono L0.out.size).trans ((l5.mono (Nat.le_trans L0.out.size L4.out.size)).trans hlw)))
  have X0 := Lib.hid (hown.cell (j := 0) (u := .int .i64 0) rfl)
  have X1 := Lib.hid (hown.cell (j := 1) (u := .int .u16 (a + size)) rfl)
  clear happ hlw hown hg1 hg2 hg3 a13 a5 l5 hsz
  go_wp2_with (first
    | (at_builtin; refine wpList_known rfl (.tmp 71) (.tmp 73) rfl rfl rfl hrun ?_))
  go_returns
  exact ⟨_, _, rfl, X0.out, X1.out, LE.out⟩
set_option maxHeartbeats 2000000 in
theorem effect_plain (w : World) (tF tH : Nat) (op d s imm size : Int) (h0 : 32 ≤ op) (h1 : op ≤ 78) :
    Calls Tryz.prog 22 #[.pointer (some ⟨tF, 0, none⟩), .pointer (some ⟨tH, 0, none⟩), insV op d s imm 0 0 size] w (fun e w' => e = .returned (.bool true) ∧ Low w.heap.size w w') := by
  have n16 : (op == 16) = false := by simpa using (by omega : ¬ op = 16)
  have n17 : (op == 17) = false := by simpa using (by omega : ¬ op = 17)
  have n21 : (op == 21) = false := by simpa using (by omega : ¬ op = 21)
  have n20 : (op == 20) = false := by simpa using (by omega : ¬ op = 20)
  have n5 : (op == 5) = false := by simpa using (by omega : ¬ op = 5)
  have n160 : (op == 160) = false := by simpa using (by omega : ¬ op = 160)
  have n161 : (op == 161) = false := by simpa using (by omega : ¬ op = 161)
  have n162 : (op == 162) = false := by simpa using (by omega : ¬ op = 162)
  have n163 : (op == 163) = false := by simpa using (by omega : ¬ op = 163)
  have n1 : (op == 1) = false := by simpa using (by omega : ¬ op = 1)
  have n3 : (op == 3) = false := by simpa using (by omega : ¬ op = 3)
  have ha := InsAt.new w op d s imm 0 0 size
  have l1 : Low w.heap.size w (w.alloc (insC op d s imm 0 0 size)) := (Low.refl _ _).alloc (Nat.le_refl _) _
  go_enter Tryz.func22, Tryz.ntmps22
  go_upto_region 1 with fail
  obtain ⟨t5, ht5⟩ : ∃ t, t = w.heap.size := ⟨_, rfl⟩
  rw [← ht5] at ha ⊢
  have HT := Lib.hid ht5
  clear ht5
  generalize w.alloc (insC op d s imm 0 0 size) = w1 at l1 ha ⊢
  have L1 := Lib.hid l1
  obtain ⟨y0, y1, y2, y3, y4, y5, y6⟩ := ha
  clear l1
  go_wp2_with fail
  go_ret
  exact ⟨rfl, L1.out⟩
end Go.Proofs.YtjkaoejcdboaiaaGreat
