/- isa.Decode, of one form of instruction. -/
import Derived.Test.YtjkaoejcdboaiaaGreatV0
import Derived.Test.YtjkaoejcdboaiaaGreatU4
set_option linter.unusedSimpArgs false
set_option linter.unusedVariables false
set_option linter.unusedSectionVars false
namespace Go.Proofs.YtjkaoejcdboaiaaGreat
open Go.RowKit Go.Eng
set_option linter.unusedVariables false
set_option linter.unusedSectionVars false
set_option maxRecDepth 100000

set_option maxHeartbeats 8000000 in
theorem decode_short (w : World) (s : ByteArray) (n d b : Nat) (h1 : 3 ≤ s.size) (hn : s[0].toNat = n) (h5 : s[1].toNat = d) (h6 : s[2].toNat = b) (o0 : 48 ≤ n) (o1 : n ≤ 62) (hd : d < 8) (hb : b < 256) :
    Calls Tryz.prog 42 #[.string s] w (fun e' w' => e' = .returned (.tuple #[insV n d 0 (extP b) 0 0 3, .int .i64 0]) ∧ Low w.heap.size w w') := by
  obtain ⟨hk, hz⟩ := kind_short n (by omega) (by omega) (by omega)
  have hlt0 : 0 < s.size := by omega
  have hwn : IntKind.i64.wrap (n : Int) = n := Go.IntWalk.i64_in _ (by omega)
  have hemp := str_ne (s := s) (by omega)
  have l0 : Low w.heap.size w (w.alloc (insC 0 0 0 0 0 0 0)) := (Low.refl _ _).alloc (Nat.le_refl _) _
  have a2 := heap_new w (insC 0 0 0 0 0 0 0)
  go_enter Tryz.func42, Tryz.ntmps42
  go_upto_region 1 with fail
  obtain ⟨t2, ht2⟩ : ∃ t, t = w.heap.size := ⟨_, rfl⟩
  rw [← ht2] at a2 ⊢
  have HT2 : Hid (w.heap.size ≤ t2) := Lib.hid (by omega)
  clear ht2
  generalize w.alloc (insC 0 0 0 0 0 0 0) = w1 at l0 a2 ⊢
  have L0 := Lib.hid l0; have A2 := Lib.hid a2
  clear l0 a2
  have hfo := formatOf_low (op := n) (by omega) (fmt_short n (by omega) (by omega) (by omega)) w1
  go_upto_region 4 with (first
    | (go_at_call 75
       refine hfo.mono ?_
       rintro e' wf ⟨rfl, lf⟩
       have lt : Low wf.heap.size wf (wf.alloc (.cells #[.int .i64 2, .int .i64 5, .int .i64 0, .int .i64 0] 176)) := (Low.refl _ _).alloc (Nat.le_refl _) _
       have at3 := heap_new wf (.cells #[.int .i64 2, .int .i64 5, .int .i64 0, .int .i64 0] 176)
       have LF := Lib.hid lf
       clear lf))
  clear hfo
  obtain ⟨t4, ht4⟩ : ∃ t, t = wf.heap.size := ⟨_, rfl⟩
  rw [← ht4] at at3 ⊢
  clear ht4
  generalize wf.alloc (.cells #[.int .i64 2, .int .i64 5, .int .i64 0, .int .i64 0] 176) = w3 at lt at3 ⊢
  have L3 := Lib.hid (LF.out.trans (lt.mono LF.out.size))
  have AT := Lib.hid at3
  clear lt at3
  have hsz := size_low (op := n) (by omega) w3
  rw [hz] at hsz
  go_upto_region 8 with (first
    | (go_at_call 76; refine hsz.mono ?_; rintro e' w4 ⟨rfl, l4⟩))
  clear hsz
  have L4 := Lib.hid (L3.out.trans (l4.mono L3.out.size))
  obtain ⟨g0, g1, g2, g3⟩ : w4.cell? ⟨t4, 0, none⟩ = some (.int .i64 2) ∧ w4.cell? ⟨t4, 1, none⟩ = some (.int .i64 5) ∧ w4.cell? ⟨t4, 2, none⟩ = some (.int .i64 0) ∧ w4.cell? ⟨t4, 3, none⟩ = some (.int .i64 0) := by
    have := l4.some AT.out
    exact ⟨cell_of this, cell_of this, cell_of this, cell_of this⟩
  clear l4
  have hrd := read_short w4 s n d b h1 hn h5 h6 o0 o1 hd
  go_upto_region 9 with (first
    | (go_at_call 77
       refine hrd.mono ?_
       rintro e' w5 ⟨rfl, l5⟩
       have l6 : Low w5.heap.size w5 (w5.alloc (insC n d 0 (extP b) 0 0 3)) := (Low.refl _ _).alloc (Nat.le_refl _) _
       have a6 := InsAt.new w5 n d 0 (extP b) 0 0 3
       have L5 := Lib.hid (L4.out.trans (l5.mono L4.out.size))
       clear l5))
  clear g0 g1 g2 g3 hrd
  obtain ⟨t6, ht6⟩ : ∃ t, t = w5.heap.size := ⟨_, rfl⟩
  rw [← ht6] at a6 ⊢
  clear ht6
  generalize w5.alloc (insC n d 0 (extP b) 0 0 3) = w6 at l6 a6 ⊢
  have L6 := Lib.hid (L5.out.trans (l6.mono L5.out.size))
  have A6 := Lib.hid a6
  clear l6
  obtain ⟨y0, y1, y2, y3, y4, y5, y6⟩ := a6
  have hva := valid_short w6 n d b o0 o1 hd hb
  go_upto_region 11 with (first
    | (go_at_call 72; refine hva.mono ?_; rintro e' wv ⟨rfl, lv⟩))
  clear y0 y1 y2 y3 y4 y5 y6 hva
  have LV := Lib.hid (L6.out.trans (lv.mono L6.out.size))
  obtain ⟨y0, y1, y2, y3, y4, y5, y6⟩ := A6.out.low lv
  clear lv
  have h2 := LV.out.some A2.out
  have cz0 := cell_of (j := 0) h2
  have fz0 := free_of (j := 0) h2
  have bz0 := set_blk (i := 0) (v := .int .i64 n) h2
  have cz1 := cell_of (j := 1) bz0
  have fz1 := free_of (j := 1) bz0
  have bz1 := set_blk (i := 1) (v := .int .i64 d) bz0
  have cz2 := cell_of (j := 2) bz1
  have fz2 := free_of (j := 2) bz1
  have bz2 := set_blk (i := 2) (v := .int .i64 0) bz1
  have cz3 := cell_of (j := 3) bz2
  have fz3 := free_of (j := 3) bz2
  have bz3 := set_blk (i := 3) (v := .int .u16 (extP b)) bz2
  have cz4 := cell_of (j := 4) bz3
  have fz4 := free_of (j := 4) bz3
  have bz4 := set_blk (i := 4) (v := .int .u16 0) bz3
  have cz5 := cell_of (j := 5) bz4
  have fz5 := free_of (j := 5) bz4
  have bz5 := set_blk (i := 5) (v := .int .i64 0) bz4
  have cz6 := cell_of (j := 6) bz5
  have fz6 := free_of (j := 6) bz5
  have bz6 := set_blk (i := 6) (v := .int .i64 3) bz5
  have rz0 : (wv.setCell ⟨t2, 0, none⟩ (.int .i64 n)).cell? ⟨t2, 0, none⟩ = some (.int .i64 n) := (cell_of bz0).trans (by simp)
  have rz1 : ((wv.setCell ⟨t2, 0, none⟩ (.int .i64 n)).setCell ⟨t2, 1, none⟩ (.int .i64 d)).cell? ⟨t2, 1, none⟩ = some (.int .i64 d) := (cell_of bz1).trans (by simp)
  have rz2 : (((wv.setCell ⟨t2, 0, none⟩ (.int .i64 n)).setCell ⟨t2, 1, none⟩ (.int .i64 d)).setCell ⟨t2, 2, none⟩ (.int .i64 0)).cell? ⟨t2, 2, none⟩ = some (.int .i64 0) := (cell_of bz2).trans (by simp)
  have rz3 : ((((wv.setCell ⟨t2, 0, none⟩ (.int .i64 n)).setCell ⟨t2, 1, none⟩ (.int .i64 d)).setCell ⟨t2, 2, none⟩ (.int .i64 0)).setCell ⟨t2, 3, none⟩ (.int .u16 (extP b))).cell? ⟨t2, 3, none⟩ = some (.int .u16 (extP b)) := (cell_of bz3).trans (by simp)
  have rz4 : (((((wv.setCell ⟨t2, 0, none⟩ (.int .i64 n)).setCell ⟨t2, 1, none⟩ (.int .i64 d)).setCell ⟨t2, 2, none⟩ (.int .i64 0)).setCell ⟨t2, 3, none⟩ (.int .u16 (extP b))).setCell ⟨t2, 4, none⟩ (.int .u16 0)).cell? ⟨t2, 4, none⟩ = some (.int .u16 0) := (cell_of bz4).trans (by simp)
  have rz5 : ((((((wv.setCell ⟨t2, 0, none⟩ (.int .i64 n)).setCell ⟨t2, 1, none⟩ (.int .i64 d)).setCell ⟨t2, 2, none⟩ (.int .i64 0)).setCell ⟨t2, 3, none⟩ (.int .u16 (extP b))).setCell ⟨t2, 4, none⟩ (.int .u16 0)).setCell ⟨t2, 5, none⟩ (.int .i64 0)).cell? ⟨t2, 5, none⟩ = some (.int .i64 0) := (cell_of bz5).trans (by simp)
  have rz6 : (((((((wv.setCell ⟨t2, 0, none⟩ (.int .i64 n)).setCell ⟨t2, 1, none⟩ (.int .i64 d)).setCell ⟨t2, 2, none⟩ (.int .i64 0)).setCell ⟨t2, 3, none⟩ (.int .u16 (extP b))).setCell ⟨t2, 4, none⟩ (.int .u16 0)).setCell ⟨t2, 5, none⟩ (.int .i64 0)).setCell ⟨t2, 6, none⟩ (.int .i64 3)).cell? ⟨t2, 6, none⟩ = some (.int .i64 3) := (cell_of bz6).trans (by simp)
  have LZ := Lib.hid (((((((((L0.out.trans (LV.out.mono L0.out.size))).setCell (g := t2) (i := 0) HT2.out (.int .i64 n)).setCell (g := t2) (i := 1) HT2.out (.int .i64 d)).setCell (g := t2) (i := 2) HT2.out (.int .i64 0)).setCell (g := t2) (i := 3) HT2.out (.int .u16 (extP b))).setCell (g := t2) (i := 4) HT2.out (.int .u16 0)).setCell (g := t2) (i := 5) HT2.out (.int .i64 0)).setCell (g := t2) (i := 6) HT2.out (.int .i64 3))
  go_wp2_with fail
  (try simp only [Exit.inBlock, Exit.then])
  refine bodyPost_ret (by simp [results, Tryz.results42, go_sem, rz0, rz1, rz2, rz3, rz4, rz5, rz6]; try rfl) rfl ?_
  exact ⟨rfl, LZ.out⟩

end Go.Proofs.YtjkaoejcdboaiaaGreat
