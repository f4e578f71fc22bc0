/- effect, of instructions that touch words below the own ones: by runs. -/
import Derived.Test.YtjkaoejcdboaiaaGreatY1
set_option linter.unusedSimpArgs false
set_option linter.unusedVariables false
set_option linter.unusedSectionVars false
/- reach, of a place that is new. -/
namespace Go.Proofs.YtjkaoejcdboaiaaGreat
open Go.RowKit Go.Eng
set_option linter.unusedVariables false
set_option linter.unusedSectionVars false
set_option maxRecDepth 100000

/-- A framer. -/
abbrev frC (b g : Nat) (work : Value) : Obj := .cells #[.slice (some ⟨b, 0, none⟩) 1 1, .int .u16 16, .int .u16 0, .slice none 0 0, .slice none 0 0, .int .i64 1, .bool false, .map (some g), work] 74
/-- What stood below S is as it was, but for two blocks. -/
structure Kept (S tF g : Nat) (w w' : World) : Prop where
  os : w'.os = w.os
  out : w'.output = w.output
  size : w.heap.size ≤ w'.heap.size
  block : ∀ q, q < S → q ≠ tF → q ≠ g → w'.heap[q]? = w.heap[q]?
theorem Kept.refl (S tF g : Nat) (w : World) : Kept S tF g w w := ⟨rfl, rfl, Nat.le_refl _, fun _ _ _ _ => rfl⟩
theorem Kept.trans {S tF g : Nat} {a b c : World} (h : Kept S tF g a b) (h' : Kept S tF g b c) : Kept S tF g a c := ⟨h'.os.trans h.os, h'.out.trans h.out, Nat.le_trans h.size h'.size, fun q x y z => (h'.block q x y z).trans (h.block q x y z)⟩
theorem Kept.low {S tF g : Nat} {a b c : World} (h : Kept S tF g a b) (h' : Low S b c) : Kept S tF g a c := h.trans ⟨h'.os, h'.out, h'.size, fun q x _ _ => h'.block q x⟩
theorem Kept.turn {S tF g : Nat} {a b c : World} (h : Kept S tF g a b) (h' : Turned g b c) : Kept S tF g a c := h.trans ⟨h'.os, h'.out, by rw [h'.size]; exact Nat.le_refl _, fun q _ _ z => h'.block q z⟩
theorem Kept.turnF {S tF g : Nat} {a b c : World} (h : Kept S tF g a b) (h' : Turned tF b c) : Kept S tF g a c := h.trans ⟨h'.os, h'.out, by rw [h'.size]; exact Nat.le_refl _, fun q _ y _ => h'.block q y⟩
theorem Kept.of {S tF g : Nat} {a b c : World} (h : ∀ q, q < S → b.heap[q]? = a.heap[q]?) (o : b.os = a.os) (u : b.output = a.output) (s : a.heap.size ≤ b.heap.size) (h' : Turned tF b c) : Kept S tF g a c :=
  (Kept.turnF (⟨o, u, s, fun q x _ _ => h q x⟩ : Kept S tF g a b) h')
set_option maxHeartbeats 8000000 in
theorem reach_new (w : World) (S tF b g m : Nat) (a : Int) (es : Array MapEntry) (c : Nat) (work : Value) (hF : w.heap[tF]? = some (frC b g work)) (hg : w.heap[g]? = some (.map es c)) (hO : Others a es.toList) (hm : w.heap[m]? = some (.map #[] 0))
    (hW : Own w S 40 2 work 0 []) (hTF : tF < S) (hGS : g < S) (hGF : g ≠ tF) (hS0 : S ≤ w.heap.size) :
    Calls Tryz.prog 19 #[.pointer (some ⟨tF, 0, none⟩), plV a, .agg #[.int .i64 0, .int .i64 (-1), .map (some m)]] w (fun e w' => e = .returned (.bool true) ∧ ∃ work' m', w'.heap[tF]? = some (frC b g work') ∧
      w'.heap[g]? = some (.map (es.push ⟨plV a, .agg #[.int .i64 0, .int .i64 (-1), .map (some m')], c⟩) (c + 1)) ∧ w'.heap[m']? = some (.map #[] 0) ∧ Own w' S 40 2 work' 1 (plC a) ∧ w.heap.size ≤ m' ∧ Kept S tF g w w') := by
  have HTF := Lib.hid hTF; have HGS := Lib.hid hGS; have HGF := Lib.hid hGF; have HS0 := Lib.hid hS0; have HO := Lib.hid hO
  obtain ⟨q, hq⟩ : ∃ q, w.heap.size = q := ⟨_, rfl⟩
  obtain ⟨a4, q4, u4⟩ := alloc_at (.cells #[.int .i64 0, .int .u16 a] 40) hq
  obtain ⟨a5, q5, u5⟩ := alloc_at (.cells #[.int .i64 0, .int .i64 (-1), .map (some m)] 78) q4
  have a4 := u5 _ _ a4
  have l0 : Low w.heap.size w ((w.alloc (.cells #[.int .i64 0, .int .u16 a] 40)).alloc (.cells #[.int .i64 0, .int .i64 (-1), .map (some m)] 78)) := ((Low.refl _ _).alloc (Nat.le_refl _) _).alloc (by simp) _
  clear u4 u5 q4 hTF hGS hGF hS0 hO
  go_enter Tryz.func19, Tryz.ntmps19
  go_upto_region 1 with fail
  have HQ := Lib.hid hq
  obtain ⟨t4, ht4⟩ : ∃ t, t = q := ⟨_, rfl⟩
  obtain ⟨t5, ht5⟩ : ∃ t, t = q + 1 := ⟨_, rfl⟩
  rw [← ht5] at a5 q5 ⊢
  rw [show (Value.pointer (some { block := q, off := 0 })) = Value.pointer (some { block := t4, off := 0 }) by rw [ht4]]
  rw [← ht4] at a4
  have HT := Lib.hid (And.intro ht4 ht5)
  clear ht4 ht5 hq
  generalize ((w.alloc (.cells #[.int .i64 0, .int .u16 a] 40)).alloc (.cells #[.int .i64 0, .int .i64 (-1), .map (some m)] 78)) = w1 at l0 a4 a5 q5 ⊢
  have L0 := Lib.hid l0
  have F1 := Lib.hid (l0.some hF); have G1 := Lib.hid (l0.some hg); have M1 := Lib.hid (l0.some hm); have W1 := Lib.hid (hW.low l0)
  have A4 := Lib.hid a4; have A5 := Lib.hid a5; have Q5 := Lib.hid q5
  have HSZ1 : Hid (S ≤ w1.heap.size) := Lib.hid (Nat.le_trans HS0.out l0.size)
  have T4F : Hid (tF < t4 ∧ g < t4 ∧ S ≤ t4) := Lib.hid (by have := HT.out.1; have := HQ.out; have := HTF.out; have := HGS.out; have := HS0.out; omega)
  have NW : Hid (∀ k, w.heap.size ≤ k → some k ≠ work.ownBlock) := Lib.hid fun k hk e => by
    rcases hW.form with ⟨e1, _⟩ | ⟨g', c', cs, e1, _, h3, _⟩
    · rw [e1] at e; cases e
    · rw [e1] at e; simp only [Value.ownBlock, Option.some.injEq] at e; have := heap_lt h3; omega
  clear l0 a4 a5 q5 hF hg hm hW
  have HX : Hid (∀ w', Low w1.heap.size w1 w' → w'.cell? ⟨tF, 7, none⟩ = some (.map (some g)) ∧ (w'.cell? ⟨t4, 0, none⟩ = some (.int .i64 0) ∧ w'.cell? ⟨t4, 1, none⟩ = some (.int .u16 a)) ∧ (Instr.lookup 71 (.map (some g)) (plV a) true).run Tryz.prog w' = .ok (.tuple #[.agg #[.int .i64 0, .int .i64 0, .map none], .bool false]) w') := Lib.hid fun w' l => ⟨cell_of (l.some F1.out), ⟨cell_of (l.some A4.out), cell_of (l.some A4.out)⟩, lookup_new a w' g es c (l.some G1.out) HO.out⟩
  have ld : Low w1.heap.size w1 w1.drew := (Low.refl _ _).drew
  have hSd := HX.out _ ld
  have HLd := Lib.hid ld
  clear ld
  refine wp_region_noPanic ?_
  refine wp_region_held_drew (S := fun w' => w'.cell? ⟨tF, 7, none⟩ = some (.map (some g)) ∧ (w'.cell? ⟨t4, 0, none⟩ = some (.int .i64 0) ∧ w'.cell? ⟨t4, 1, none⟩ = some (.int .u16 a)) ∧ (Instr.lookup 71 (.map (some g)) (plV a) true).run Tryz.prog w' = .ok (.tuple #[.agg #[.int .i64 0, .int .i64 0, .map none], .bool false]) w') (by kernel_rfl) (by exact hSd) (fun hHeld => ?_)
  generalize w1.drew = wd at hHeld hSd HLd ⊢
  refine take_at (i := 0) (v := ?_) rfl (by kernel_rfl) (by kernel_rfl) (by kernel_rfl) (fun _ _ _ h => h) (by rfl) ?_ (by exact hHeld) ?_
  rotate_left
  · intro w' hSw; obtain ⟨y0, ⟨y1, y2⟩, y3⟩ := hSw; go_simp; (try with_reducible rfl)
  (try simp only [Act.put, List.setIfInBounds_toArray, List.set_cons_zero, List.set_cons_succ])
  refine take_at (i := 1) (v := ?_) rfl (by kernel_rfl) (by kernel_rfl) (by kernel_rfl) (fun _ _ _ h => h) (by rfl) ?_ (by exact hHeld) ?_
  rotate_left
  · intro w' hSw; obtain ⟨y0, ⟨y1, y2⟩, y3⟩ := hSw; go_simp; (try with_reducible rfl)
  (try simp only [Act.put, List.setIfInBounds_toArray, List.set_cons_zero, List.set_cons_succ])
  refine take_at (i := 2) (v := ?_) rfl (by kernel_rfl) (by kernel_rfl) (by kernel_rfl) (fun _ _ _ h => h) (by rfl) ?_ (by exact hHeld) ?_
  rotate_left
  · intro w' hSw; obtain ⟨y0, ⟨y1, y2⟩, y3⟩ := hSw; go_simp; (try with_reducible rfl)
  (try simp only [Act.put, List.setIfInBounds_toArray, List.set_cons_zero, List.set_cons_succ])
  refine take_at (i := 3) (v := ?_) rfl (by kernel_rfl) (by kernel_rfl) (by kernel_rfl) (fun _ _ _ h => h) (by rfl) ?_ (by exact hHeld) ?_
  rotate_left
  · intro w' hSw; obtain ⟨y0, ⟨y1, y2⟩, y3⟩ := hSw; go_simp; (try with_reducible rfl)
  (try simp only [Act.put, List.setIfInBounds_toArray, List.set_cons_zero, List.set_cons_succ])
  refine take_at (i := 4) (v := ?_) rfl (by kernel_rfl) (by kernel_rfl) (by kernel_rfl) (fun _ _ _ h => h) (by rfl) ?_ (by exact hHeld) ?_
  rotate_left
  · intro w' hSw; obtain ⟨y0, ⟨y1, y2⟩, y3⟩ := hSw; go_simp; (try with_reducible rfl)
  (try simp only [Act.put, List.setIfInBounds_toArray, List.set_cons_zero, List.set_cons_succ])
  refine take_at (i := 5) (v := ?_) rfl (by kernel_rfl) (by kernel_rfl) (by kernel_rfl) (fun _ _ _ h => h) (by rfl) ?_ (by exact hHeld) ?_
  rotate_left
  · intro w' hSw; obtain ⟨y0, ⟨y1, y2⟩, y3⟩ := hSw; go_simp; (try with_reducible rfl)
  (try simp only [Act.put, List.setIfInBounds_toArray, List.set_cons_zero, List.set_cons_succ])
  refine take_at (i := 6) (v := ?_) rfl (by kernel_rfl) (by kernel_rfl) (by kernel_rfl) (fun _ _ _ h => h) (by rfl) ?_ (by exact hHeld) ?_
  rotate_left
  · intro w' hSw; obtain ⟨y0, ⟨y1, y2⟩, y3⟩ := hSw; go_simp; (try with_reducible rfl)
  (try simp only [Act.put, List.setIfInBounds_toArray, List.set_cons_zero, List.set_cons_succ])
  refine take_at (i := 7) (v := ?_) rfl (by kernel_rfl) (by kernel_rfl) (by kernel_rfl) (fun _ _ _ h => h) (by rfl) ?_ (by exact hHeld) ?_
  rotate_left
  · intro w' hSw; obtain ⟨y0, ⟨y1, y2⟩, y3⟩ := hSw; go_simp; (try with_reducible rfl)
  (try simp only [Act.put, List.setIfInBounds_toArray, List.set_cons_zero, List.set_cons_succ])
  refine take_at (i := 8) (v := ?_) rfl (by kernel_rfl) (by kernel_rfl) (by kernel_rfl) (fun _ _ _ h => h) (by rfl) ?_ (by exact hHeld) ?_
  rotate_left
  · intro w' hSw; obtain ⟨y0, ⟨y1, y2⟩, y3⟩ := hSw; go_simp; (try with_reducible rfl)
  (try simp only [Act.put, List.setIfInBounds_toArray, List.set_cons_zero, List.set_cons_succ])
  refine wpAnyH_ready (rs := [9]) (by kernel_rfl) (by simp) ?_
  refine next_at (i := 9) rfl (fun KK hKK => ?_) AllReadyH.nil
  have l7 : Low wd.heap.size wd (wd.alloc (.cells #[.int .i64 0, .int .i64 0, .map none] 78)) := (Low.refl _ _).alloc (Nat.le_refl _) _
  have a7 := heap_new wd (.cells #[.int .i64 0, .int .i64 0, .map none] 78)
  go_simp
  obtain ⟨t7, ht7⟩ : ∃ t, t = wd.heap.size := ⟨_, rfl⟩
  rw [← ht7] at a7 ⊢
  have HT7 : Hid (w1.heap.size ≤ t7) := Lib.hid (by have := HLd.out.size; omega)
  clear ht7
  generalize wd.alloc (.cells #[.int .i64 0, .int .i64 0, .map none] 78) = w7 at l7 a7 ⊢
  have L7 := Lib.hid (HLd.out.trans (l7.mono HLd.out.size))
  clear l7
  refine hKK.out _ _ (by exact (HX.out _ L7.out)) (fun hHeld => ?_)
  clear hKK KK
  (try simp only [Act.put, List.setIfInBounds_toArray, List.set_cons_zero, List.set_cons_succ])
  refine wpAnyH_ready (rs := [10]) (by kernel_rfl) (by simp) ?_
  refine next_at (i := 10) rfl (fun KK hKK => ?_) AllReadyH.nil
  have ck0 := cell_of (j := 0) a7
  have fk0 := free_of (j := 0) a7
  have bk0 := set_blk (i := 0) (v := .int .i64 0) a7
  have ck1 := cell_of (j := 1) bk0
  have fk1 := free_of (j := 1) bk0
  have bk1 := set_blk (i := 1) (v := .int .i64 0) bk0
  have ck2 := cell_of (j := 2) bk1
  have fk2 := free_of (j := 2) bk1
  have bk2 := set_blk (i := 2) (v := .map none) bk1
  go_simp
  have T8 : Turned t7 w7 ((((w7.setCell ⟨t7, 0, none⟩ (.int .i64 0)).setCell ⟨t7, 1, none⟩ (.int .i64 0)).setCell ⟨t7, 2, none⟩ (.map none))) := ((Turned.set _ _ _ _).trans (Turned.set _ _ _ _)).trans (Turned.set _ _ _ _)
  generalize (((w7.setCell ⟨t7, 0, none⟩ (.int .i64 0)).setCell ⟨t7, 1, none⟩ (.int .i64 0)).setCell ⟨t7, 2, none⟩ (.map none)) = wa at T8 hHeld ⊢
  clear ck0 ck1 ck2 fk0 fk1 fk2 bk0 bk1 bk2 a7
  have La := Lib.hid (L7.out.trans (T8.low HT7.out))
  clear T8
  refine hKK.out _ _ (by exact (HX.out _ La.out)) (fun hHeld => ?_)
  clear hKK KK
  (try simp only [Act.put, List.setIfInBounds_toArray, List.set_cons_zero, List.set_cons_succ])
  refine take_at (i := 11) (v := ?_) rfl (by kernel_rfl) (by kernel_rfl) (by kernel_rfl) (fun _ _ _ h => h) (by rfl) ?_ (by exact hHeld) ?_
  rotate_left
  · intro w' hSw; obtain ⟨y0, ⟨y1, y2⟩, y3⟩ := hSw; go_simp; (try with_reducible rfl)
  (try simp only [Act.put, List.setIfInBounds_toArray, List.set_cons_zero, List.set_cons_succ])
  refine wpAnyH_done (by kernel_rfl) ?_ _
  refine NoPanic.normal ?_
  clear hHeld hSd
  go_upto_region 3 with fail
  have HY : Hid (∀ w', Low w1.heap.size w1 w' → w'.cell? ⟨tF, 7, none⟩ = some (.map (some g)) ∧ (w'.cell? ⟨t4, 0, none⟩ = some (.int .i64 0) ∧ w'.cell? ⟨t4, 1, none⟩ = some (.int .u16 a)) ∧ (w'.cell? ⟨t5, 0, none⟩ = some (.int .i64 0) ∧ w'.cell? ⟨t5, 1, none⟩ = some (.int .i64 (-1)) ∧ w'.cell? ⟨t5, 2, none⟩ = some (.map (some m)))) := Lib.hid fun w' l => ⟨cell_of (l.some F1.out), ⟨cell_of (l.some A4.out), cell_of (l.some A4.out)⟩, cell_of (l.some A5.out), cell_of (l.some A5.out), cell_of (l.some A5.out)⟩
  have ld := La.out.drew
  have hSd := HY.out _ ld
  have HLd := Lib.hid ld
  clear ld
  refine wp_region_noPanic ?_
  refine wp_region_held_drew (S := fun w' => w'.cell? ⟨tF, 7, none⟩ = some (.map (some g)) ∧ (w'.cell? ⟨t4, 0, none⟩ = some (.int .i64 0) ∧ w'.cell? ⟨t4, 1, none⟩ = some (.int .u16 a)) ∧ (w'.cell? ⟨t5, 0, none⟩ = some (.int .i64 0) ∧ w'.cell? ⟨t5, 1, none⟩ = some (.int .i64 (-1)) ∧ w'.cell? ⟨t5, 2, none⟩ = some (.map (some m)))) (by kernel_rfl) (by exact hSd) (fun hHeld => ?_)
  generalize wa.drew = wd at hHeld hSd HLd ⊢
  refine take_at (i := 0) (v := ?_) rfl (by kernel_rfl) (by kernel_rfl) (by kernel_rfl) (fun _ _ _ h => h) (by rfl) ?_ (by exact hHeld) ?_
  rotate_left
  · intro w' hSw; obtain ⟨y0, ⟨y1, y2⟩, ⟨y3, y4, y5⟩⟩ := hSw; go_simp; (try with_reducible rfl)
  (try simp only [Act.put, List.setIfInBounds_toArray, List.set_cons_zero, List.set_cons_succ])
  refine take_at (i := 1) (v := ?_) rfl (by kernel_rfl) (by kernel_rfl) (by kernel_rfl) (fun _ _ _ h => h) (by rfl) ?_ (by exact hHeld) ?_
  rotate_left
  · intro w' hSw; obtain ⟨y0, ⟨y1, y2⟩, ⟨y3, y4, y5⟩⟩ := hSw; go_simp; (try with_reducible rfl)
  (try simp only [Act.put, List.setIfInBounds_toArray, List.set_cons_zero, List.set_cons_succ])
  refine take_at (i := 2) (v := ?_) rfl (by kernel_rfl) (by kernel_rfl) (by kernel_rfl) (fun _ _ _ h => h) (by rfl) ?_ (by exact hHeld) ?_
  rotate_left
  · intro w' hSw; obtain ⟨y0, ⟨y1, y2⟩, ⟨y3, y4, y5⟩⟩ := hSw; go_simp; (try with_reducible rfl)
  (try simp only [Act.put, List.setIfInBounds_toArray, List.set_cons_zero, List.set_cons_succ])
  refine take_at (i := 3) (v := ?_) rfl (by kernel_rfl) (by kernel_rfl) (by kernel_rfl) (fun _ _ _ h => h) (by rfl) ?_ (by exact hHeld) ?_
  rotate_left
  · intro w' hSw; obtain ⟨y0, ⟨y1, y2⟩, ⟨y3, y4, y5⟩⟩ := hSw; go_simp; (try with_reducible rfl)
  (try simp only [Act.put, List.setIfInBounds_toArray, List.set_cons_zero, List.set_cons_succ])
  refine take_at (i := 4) (v := ?_) rfl (by kernel_rfl) (by kernel_rfl) (by kernel_rfl) (fun _ _ _ h => h) (by rfl) ?_ (by exact hHeld) ?_
  rotate_left
  · intro w' hSw; obtain ⟨y0, ⟨y1, y2⟩, ⟨y3, y4, y5⟩⟩ := hSw; go_simp; (try with_reducible rfl)
  (try simp only [Act.put, List.setIfInBounds_toArray, List.set_cons_zero, List.set_cons_succ])
  refine take_at (i := 5) (v := ?_) rfl (by kernel_rfl) (by kernel_rfl) (by kernel_rfl) (fun _ _ _ h => h) (by rfl) ?_ (by exact hHeld) ?_
  rotate_left
  · intro w' hSw; obtain ⟨y0, ⟨y1, y2⟩, ⟨y3, y4, y5⟩⟩ := hSw; go_simp; (try with_reducible rfl)
  (try simp only [Act.put, List.setIfInBounds_toArray, List.set_cons_zero, List.set_cons_succ])
  refine take_at (i := 6) (v := ?_) rfl (by kernel_rfl) (by kernel_rfl) (by kernel_rfl) (fun _ _ _ h => h) (by rfl) ?_ (by exact hHeld) ?_
  rotate_left
  · intro w' hSw; obtain ⟨y0, ⟨y1, y2⟩, ⟨y3, y4, y5⟩⟩ := hSw; go_simp; (try with_reducible rfl)
  (try simp only [Act.put, List.setIfInBounds_toArray, List.set_cons_zero, List.set_cons_succ])
  refine take_at (i := 7) (v := ?_) rfl (by kernel_rfl) (by kernel_rfl) (by kernel_rfl) (fun _ _ _ h => h) (by rfl) ?_ (by exact hHeld) ?_
  rotate_left
  · intro w' hSw; obtain ⟨y0, ⟨y1, y2⟩, ⟨y3, y4, y5⟩⟩ := hSw; go_simp; (try with_reducible rfl)
  (try simp only [Act.put, List.setIfInBounds_toArray, List.set_cons_zero, List.set_cons_succ])
  refine take_at (i := 8) (v := ?_) rfl (by kernel_rfl) (by kernel_rfl) (by kernel_rfl) (fun _ _ _ h => h) (by rfl) ?_ (by exact hHeld) ?_
  rotate_left
  · intro w' hSw; obtain ⟨y0, ⟨y1, y2⟩, ⟨y3, y4, y5⟩⟩ := hSw; go_simp; (try with_reducible rfl)
  (try simp only [Act.put, List.setIfInBounds_toArray, List.set_cons_zero, List.set_cons_succ])
  refine take_at (i := 9) (v := ?_) rfl (by kernel_rfl) (by kernel_rfl) (by kernel_rfl) (fun _ _ _ h => h) (by rfl) ?_ (by exact hHeld) ?_
  rotate_left
  · intro w' hSw; obtain ⟨y0, ⟨y1, y2⟩, ⟨y3, y4, y5⟩⟩ := hSw; go_simp; (try with_reducible rfl)
  (try simp only [Act.put, List.setIfInBounds_toArray, List.set_cons_zero, List.set_cons_succ])
  refine take_at (i := 10) (v := ?_) rfl (by kernel_rfl) (by kernel_rfl) (by kernel_rfl) (fun _ _ _ h => h) (by rfl) ?_ (by exact hHeld) ?_
  rotate_left
  · intro w' hSw; obtain ⟨y0, ⟨y1, y2⟩, ⟨y3, y4, y5⟩⟩ := hSw; go_simp; (try with_reducible rfl)
  (try simp only [Act.put, List.setIfInBounds_toArray, List.set_cons_zero, List.set_cons_succ])
  have hcl := clone20 m #[] 0 wd (HLd.out.some M1.out)
  refine wpAnyH_ready (rs := [11]) (by kernel_rfl) (by simp) ?_
  refine next_at (i := 11) rfl (fun KK hKK => ?_) AllReadyH.nil
  refine step_call rfl 20 #[.map (some m)] (by go_simp) (fun v w' => ∃ mN, v = .map (some mN) ∧ wd.heap.size ≤ mN ∧ w'.heap[mN]? = some (.map #[] 0) ∧ mN < w'.heap.size ∧ Low wd.heap.size wd w') (hcl.mono (by
    rintro e w' ⟨rfl, rfl⟩
    exact ⟨_, rfl, _, rfl, Nat.le_refl _, heap_new wd _, by simp, (Low.refl _ _).alloc (Nat.le_refl _) _⟩)) ?_
  rintro v w6 ⟨mN, rfl, hmN, hm6, hmL, l6⟩
  have L6 := Lib.hid (HLd.out.trans (l6.mono HLd.out.size))
  have MN0 := Lib.hid hmN; have M6 := Lib.hid hm6
  clear l6 hcl hmN hm6 hmL
  refine hKK.out _ _ (by exact (HY.out _ L6.out)) (fun hHeld => ?_)
  clear hKK KK
  (try simp only [Act.put, List.setIfInBounds_toArray, List.set_cons_zero, List.set_cons_succ])
  refine take_at (i := 12) (v := ?_) rfl (by kernel_rfl) (by kernel_rfl) (by kernel_rfl) (fun _ _ _ h => h) (by rfl) ?_ (by exact hHeld) ?_
  rotate_left
  · intro w' hSw; obtain ⟨y0, ⟨y1, y2⟩, ⟨y3, y4, y5⟩⟩ := hSw; go_simp; (try with_reducible rfl)
  (try simp only [Act.put, List.setIfInBounds_toArray, List.set_cons_zero, List.set_cons_succ])
  have hup := update_new a w6 g es (.agg #[.int .i64 0, .int .i64 (-1), .map (some mN)]) c (L6.out.some G1.out) HO.out
  refine wpAnyH_ready (rs := [13]) (by kernel_rfl) (by simp) ?_
  refine next_at (i := 13) rfl (fun KK hKK => ?_) AllReadyH.nil
  go_simp
  have T7 := setBlock_turned w6 g (.map (es.push ⟨plV a, .agg #[.int .i64 0, .int .i64 (-1), .map (some mN)], c⟩) (c + 1))
  have g7 := setBlock_at (w := w6) (g := g) (.map (es.push ⟨plV a, .agg #[.int .i64 0, .int .i64 (-1), .map (some mN)], c⟩) (c + 1)) (heap_lt (L6.out.some G1.out))
  generalize Go.ChangeMaps.setBlock w6 g (.map (es.push ⟨plV a, .agg #[.int .i64 0, .int .i64 (-1), .map (some mN)], c⟩) (c + 1)) = wb at T7 g7 hHeld ⊢
  have hYb : wb.cell? ⟨tF, 7, none⟩ = some (.map (some g)) ∧ (wb.cell? ⟨t4, 0, none⟩ = some (.int .i64 0) ∧ wb.cell? ⟨t4, 1, none⟩ = some (.int .u16 a)) ∧ (wb.cell? ⟨t5, 0, none⟩ = some (.int .i64 0) ∧ wb.cell? ⟨t5, 1, none⟩ = some (.int .i64 (-1)) ∧ wb.cell? ⟨t5, 2, none⟩ = some (.map (some m))) := by
    obtain ⟨z0, ⟨z1, z2⟩, z3, z4, z5⟩ := HY.out _ L6.out
    have n4 : t4 ≠ g := by have := T4F.out; omega
    have n5 : t5 ≠ g := by have := T4F.out; have := HT.out; omega
    exact ⟨T7.cell (fun h => HGF.out h.symm) z0, ⟨T7.cell n4 z1, T7.cell n4 z2⟩, T7.cell n5 z3, T7.cell n5 z4, T7.cell n5 z5⟩
  refine hKK.out _ _ (by exact hYb) (fun hHeld => ?_)
  clear hKK KK
  (try simp only [Act.put, List.setIfInBounds_toArray, List.set_cons_zero, List.set_cons_succ])
  refine wpAnyH_done (by kernel_rfl) ?_ _
  refine NoPanic.normal ?_
  clear hHeld hSd hup
  have KB : Hid (Kept S tF g w wb) := Lib.hid ((((Kept.refl S tF g w).low (L0.out.mono HS0.out)).low (L6.out.mono HSZ1.out)).turn T7)
  have FB := Lib.hid ((T7.block tF (fun h => HGF.out h.symm)).trans (L6.out.some F1.out))
  have GB := Lib.hid g7
  have MB : Hid (wb.heap[mN]? = some (.map #[] 0)) := Lib.hid ((T7.block mN (by have := MN0.out; have := T4F.out; have := HLd.out.size; have := HSZ1.out; have := HGS.out; omega)).trans M6.out)
  have WB : Hid (Own wb S 40 2 work 0 []) := Lib.hid ((W1.out.low L6.out).kept fun q hq => T7.block q (by
    rcases W1.out.form with ⟨e, _⟩ | ⟨g', c', cs, e, h1, _⟩
    · rw [e] at hq; cases hq
    · rw [e] at hq; simp only [Value.ownBlock, Option.some.injEq] at hq; have := HGS.out; omega))
  have B4 := Lib.hid hYb.2.1
  have MN : Hid (w.heap.size ≤ mN) := Lib.hid (by have := MN0.out; have := HLd.out.size; have := L0.out.size; omega)
  clear hYb T7 g7
  go_upto_region 4 with fail
  have hsd : Low wb.heap.size wb wb.drew := (Low.refl _ _).drew
  have FD : Hid (wb.drew.heap[tF]? = some (frC b g work)) := FB
  have GD : Hid (wb.drew.heap[g]? = _) := GB
  have MD : Hid (wb.drew.heap[mN]? = _) := MB
  have WD : Hid (Own wb.drew S 40 2 work 0 []) := Lib.hid (WB.out.low hsd)
  have KD : Hid (Kept S tF g w wb.drew) := Lib.hid (KB.out.low ⟨hsd.os, hsd.out, hsd.size, fun q _ => rfl⟩)
  have hSd : wb.drew.cell? ⟨t4, 0, none⟩ = some (.int .i64 0) ∧ wb.drew.cell? ⟨t4, 1, none⟩ = some (.int .u16 a) := B4.out
  refine wp_region_noPanic ?_
  refine wp_region_held_drew (S := fun w' => w'.cell? ⟨t4, 0, none⟩ = some (.int .i64 0) ∧ w'.cell? ⟨t4, 1, none⟩ = some (.int .u16 a)) (by kernel_rfl) (by exact hSd) (fun hHeld => ?_)
  generalize wb.drew = wd2 at hHeld hSd FD GD MD WD KD ⊢
  have HT4D : Hid (∀ w', Low wd2.heap.size wd2 w' → w'.cell? ⟨t4, 0, none⟩ = some (.int .i64 0) ∧ w'.cell? ⟨t4, 1, none⟩ = some (.int .u16 a)) := Lib.hid fun w' l => ⟨l.cell hSd.1, l.cell hSd.2⟩
  have T4L : Hid (t4 < wd2.heap.size) := Lib.hid (cell_lt hSd.1)
  have MNL : Hid (mN < wd2.heap.size) := Lib.hid (heap_lt MD.out)
  have HSZ : Hid (S ≤ wd2.heap.size) := Lib.hid (Nat.le_trans HS0.out KD.out.size)
  refine take_at (i := 0) (v := ?_) rfl (by kernel_rfl) (by kernel_rfl) (by kernel_rfl) (fun _ _ _ h => h) (by rfl) ?_ (by exact hHeld) ?_
  rotate_left
  · intro w' hSw; obtain ⟨y1, y2⟩ := hSw; go_simp; (try with_reducible rfl)
  (try simp only [Act.put, List.setIfInBounds_toArray, List.set_cons_zero, List.set_cons_succ])
  refine take_at (i := 1) (v := ?_) rfl (by kernel_rfl) (by kernel_rfl) (by kernel_rfl) (fun _ _ _ h => h) (by rfl) ?_ (by exact hHeld) ?_
  rotate_left
  · intro w' hSw; obtain ⟨y1, y2⟩ := hSw; go_simp; (try with_reducible rfl)
  (try simp only [Act.put, List.setIfInBounds_toArray, List.set_cons_zero, List.set_cons_succ])
  refine take_at (i := 2) (v := ?_) rfl (by kernel_rfl) (by kernel_rfl) (by kernel_rfl) (fun _ _ _ h => h) (by rfl) ?_ (by exact hHeld) ?_
  rotate_left
  · intro w' hSw; obtain ⟨y1, y2⟩ := hSw; go_simp; (try with_reducible rfl)
  (try simp only [Act.put, List.setIfInBounds_toArray, List.set_cons_zero, List.set_cons_succ])
  refine take_at (i := 3) (v := ?_) rfl (by kernel_rfl) (by kernel_rfl) (by kernel_rfl) (fun _ _ _ h => h) (by rfl) ?_ (by exact hHeld) ?_
  rotate_left
  · intro w' hSw; obtain ⟨y1, y2⟩ := hSw; go_simp; (try with_reducible rfl)
  (try simp only [Act.put, List.setIfInBounds_toArray, List.set_cons_zero, List.set_cons_succ])
  refine take_at (i := 5) (v := ?_) rfl (by kernel_rfl) (by kernel_rfl) (by kernel_rfl) (fun _ _ _ h => h) (by rfl) ?_ (by exact hHeld) ?_
  rotate_left
  · intro w' hSw; obtain ⟨y1, y2⟩ := hSw; go_simp; (try with_reducible rfl)
  (try simp only [Act.put, List.setIfInBounds_toArray, List.set_cons_zero, List.set_cons_succ])
  refine wpAnyH_ready (rs := [4, 6]) (by kernel_rfl) (by simp) ?_
  refine next_at (i := 4) rfl (fun KK hKK => ?_) (next_at (i := 6) rfl (fun KK hKK => ?_) AllReadyH.nil)
  · have c8 : wd2.cell? ⟨tF, 8, none⟩ = some work := cell_of FD.out
    go_simp
    clear c8
    refine hKK.out _ _ (by exact hSd) (fun hHeld => ?_)
    clear hKK KK
    (try simp only [Act.put, List.setIfInBounds_toArray, List.set_cons_zero, List.set_cons_succ])
    refine wpAnyH_ready (rs := [6]) (by kernel_rfl) (by simp) ?_
    refine next_at (i := 6) rfl (fun KK hKK => ?_) AllReadyH.nil
    have l8 : Low wd2.heap.size wd2 (wd2.alloc (.cells #[.int .i64 0, .int .u16 a] 40)) := (Low.refl _ _).alloc (Nat.le_refl _) _
    have a8 := heap_new wd2 (.cells #[.int .i64 0, .int .u16 a] 40)
    go_simp
    obtain ⟨t8, ht8⟩ : ∃ t, t = wd2.heap.size := ⟨_, rfl⟩
    rw [← ht8] at a8 ⊢
    clear ht8
    generalize wd2.alloc (.cells #[.int .i64 0, .int .u16 a] 40) = w8 at l8 a8 hHeld ⊢
    have L8 := Lib.hid l8
    clear l8
    refine hKK.out _ _ (by exact (HT4D.out _ L8.out)) (fun hHeld => ?_)
    clear hKK KK
    (try simp only [Act.put, List.setIfInBounds_toArray, List.set_cons_zero, List.set_cons_succ])
    have ho8 := WD.out.low L8.out
    have hsz8 : S ≤ w8.heap.size := Nat.le_trans HSZ.out L8.out.size
    obtain ⟨v', w9, hrun, happ⟩ := app_pl ho8 a8 (by omega) hsz8
    obtain ⟨work', cw, cs, rfl, hg1, hg2, hg3, hown⟩ := happ.row (k := 1) rfl (by decide)
    have hb9 : ∀ q, q < S → w9.heap[q]? = w8.heap[q]? := fun q hq => (happ.low ho8 (Nat.le_refl _) hsz8).block q hq
    have hF9 : w9.heap[tF]? = some (frC b g work) := (hb9 tF HTF.out).trans (L8.out.some FD.out)
    have h49 : w9.cell? ⟨t4, 0, none⟩ = some (.int .i64 0) ∧ w9.cell? ⟨t4, 1, none⟩ = some (.int .u16 a) := by
      obtain ⟨z1, z2⟩ := HT4D.out _ L8.out
      have e9 : w9.heap[t4]? = w8.heap[t4]? := happ.block t4 (Nat.lt_of_lt_of_le T4L.out L8.out.size) (fun e => NW.out t4 (by have := HT.out.1; have := HQ.out; omega) e)
      exact ⟨(World.cell?_of_block (a := ⟨t4, 0, none⟩) e9).trans z1, (World.cell?_of_block (a := ⟨t4, 1, none⟩) e9).trans z2⟩
    refine wpAnyH_ready (rs := [7]) (by kernel_rfl) (by simp) ?_
    refine next_at (i := 7) rfl (fun KK hKK => ?_) AllReadyH.nil
    refine step_known rfl (.tmp 42) (.tmp 44) rfl rfl rfl hrun ?_
    refine hKK.out _ _ (by exact h49) (fun hHeld => ?_)
    clear hKK KK
    (try simp only [Act.put, List.setIfInBounds_toArray, List.set_cons_zero, List.set_cons_succ])
    refine take_at (i := 8) (v := ?_) rfl (by kernel_rfl) (by kernel_rfl) (by kernel_rfl) (fun _ _ _ h => h) (by rfl) ?_ (by exact hHeld) ?_
    rotate_left
    · intro w' hSw; obtain ⟨y1, y2⟩ := hSw; go_simp; (try with_reducible rfl)
    (try simp only [Act.put, List.setIfInBounds_toArray, List.set_cons_zero, List.set_cons_succ])
    refine take_at (i := 9) (v := ?_) rfl (by kernel_rfl) (by kernel_rfl) (by kernel_rfl) (fun _ _ _ h => h) (by rfl) ?_ (by exact hHeld) ?_
    rotate_left
    · intro w' hSw; obtain ⟨y1, y2⟩ := hSw; go_simp; (try with_reducible rfl)
    (try simp only [Act.put, List.setIfInBounds_toArray, List.set_cons_zero, List.set_cons_succ])
    have f9 : w9.frozen? ⟨tF, 8, none⟩ = false := free_of hF9
    have c9 : w9.cell? ⟨tF, 8, none⟩ = some work := cell_of hF9
    refine wpAnyH_ready (rs := [10]) (by kernel_rfl) (by simp) ?_
    refine next_at (i := 10) rfl (fun KK hKK => ?_) AllReadyH.nil
    go_simp
    have T9 := Turned.set w9 tF 8 (.slice (some ⟨work', 0, none⟩) 1 cw)
    have F10 := set_blk (i := 8) (v := .slice (some ⟨work', 0, none⟩) 1 cw) hF9
    generalize w9.setCell ⟨tF, 8, none⟩ (.slice (some ⟨work', 0, none⟩) 1 cw) = w10 at T9 F10 ⊢
    have F10 : w10.heap[tF]? = some (frC b g (.slice (some ⟨work', 0, none⟩) 1 cw)) := F10
    have h410 : w10.cell? ⟨t4, 0, none⟩ = some (.int .i64 0) ∧ w10.cell? ⟨t4, 1, none⟩ = some (.int .u16 a) := ⟨T9.cell (show t4 ≠ tF by have := T4F.out; omega) h49.1, T9.cell (show t4 ≠ tF by have := T4F.out; omega) h49.2⟩
    refine hKK.out _ _ (by exact h410) (fun hHeld => ?_)
    clear hKK KK
    (try simp only [Act.put, List.setIfInBounds_toArray, List.set_cons_zero, List.set_cons_succ])
    refine wpAnyH_done (by kernel_rfl) ?_ _
    refine NoPanic.normal ?_
    clear hHeld
    go_wp2_with fail
    go_ret
    have hown10 : Own w10 S 40 2 (.slice (some ⟨work', 0, none⟩) 1 cw) 1 (plC a) := (Own.kept (w' := w10) hown fun q hq => by
      simp only [Value.ownBlock, Option.some.injEq] at hq
      subst hq
      exact T9.block _ (by have := HTF.out; omega))
    refine ⟨rfl, _, mN, F10, ?_, ?_, hown10, MN.out, ?_⟩
    · exact (T9.block g (by have := HGF.out; omega)).trans ((hb9 g HGS.out).trans (L8.out.some GD.out))
    · have e9 : w9.heap[mN]? = w8.heap[mN]? := happ.block mN (Nat.lt_of_lt_of_le MNL.out L8.out.size) (fun e => NW.out mN MN.out e)
      exact (T9.block mN (by have := MN.out; have := HTF.out; have := HS0.out; omega)).trans (e9.trans (L8.out.some MD.out))
    · exact (KD.out.low (L8.out.mono (by have := HSZ.out; exact this))).trans (Kept.of hb9 happ.os happ.out happ.size T9)
  · have l8 : Low wd2.heap.size wd2 (wd2.alloc (.cells #[.int .i64 0, .int .u16 a] 40)) := (Low.refl _ _).alloc (Nat.le_refl _) _
    have a8 := heap_new wd2 (.cells #[.int .i64 0, .int .u16 a] 40)
    go_simp
    obtain ⟨t8, ht8⟩ : ∃ t, t = wd2.heap.size := ⟨_, rfl⟩
    rw [← ht8] at a8 ⊢
    clear ht8
    generalize wd2.alloc (.cells #[.int .i64 0, .int .u16 a] 40) = w8 at l8 a8 hHeld ⊢
    have L8 := Lib.hid l8
    clear l8
    refine hKK.out _ _ (by exact (HT4D.out _ L8.out)) (fun hHeld => ?_)
    clear hKK KK
    (try simp only [Act.put, List.setIfInBounds_toArray, List.set_cons_zero, List.set_cons_succ])
    refine wpAnyH_ready (rs := [4]) (by kernel_rfl) (by simp) ?_
    refine next_at (i := 4) rfl (fun KK hKK => ?_) AllReadyH.nil
    have c8 : w8.cell? ⟨tF, 8, none⟩ = some work := cell_of (L8.out.some FD.out)
    go_simp
    clear c8
    refine hKK.out _ _ (by exact (HT4D.out _ L8.out)) (fun hHeld => ?_)
    clear hKK KK
    (try simp only [Act.put, List.setIfInBounds_toArray, List.set_cons_zero, List.set_cons_succ])
    have ho8 := WD.out.low L8.out
    have hsz8 : S ≤ w8.heap.size := Nat.le_trans HSZ.out L8.out.size
    obtain ⟨v', w9, hrun, happ⟩ := app_pl ho8 a8 (by omega) hsz8
    obtain ⟨work', cw, cs, rfl, hg1, hg2, hg3, hown⟩ := happ.row (k := 1) rfl (by decide)
    have hb9 : ∀ q, q < S → w9.heap[q]? = w8.heap[q]? := fun q hq => (happ.low ho8 (Nat.le_refl _) hsz8).block q hq
    have hF9 : w9.heap[tF]? = some (frC b g work) := (hb9 tF HTF.out).trans (L8.out.some FD.out)
    have h49 : w9.cell? ⟨t4, 0, none⟩ = some (.int .i64 0) ∧ w9.cell? ⟨t4, 1, none⟩ = some (.int .u16 a) := by
      obtain ⟨z1, z2⟩ := HT4D.out _ L8.out
      have e9 : w9.heap[t4]? = w8.heap[t4]? := happ.block t4 (Nat.lt_of_lt_of_le T4L.out L8.out.size) (fun e => NW.out t4 (by have := HT.out.1; have := HQ.out; omega) e)
      exact ⟨(World.cell?_of_block (a := ⟨t4, 0, none⟩) e9).trans z1, (World.cell?_of_block (a := ⟨t4, 1, none⟩) e9).trans z2⟩
    refine wpAnyH_ready (rs := [7]) (by kernel_rfl) (by simp) ?_
    refine next_at (i := 7) rfl (fun KK hKK => ?_) AllReadyH.nil
    refine step_known rfl (.tmp 42) (.tmp 44) rfl rfl rfl hrun ?_
    refine hKK.out _ _ (by exact h49) (fun hHeld => ?_)
    clear hKK KK
    (try simp only [Act.put, List.setIfInBounds_toArray, List.set_cons_zero, List.set_cons_succ])
    refine take_at (i := 8) (v := ?_) rfl (by kernel_rfl) (by kernel_rfl) (by kernel_rfl) (fun _ _ _ h => h) (by rfl) ?_ (by exact hHeld) ?_
    rotate_left
    · intro w' hSw; obtain ⟨y1, y2⟩ := hSw; go_simp; (try with_reducible rfl)
    (try simp only [Act.put, List.setIfInBounds_toArray, List.set_cons_zero, List.set_cons_succ])
    refine take_at (i := 9) (v := ?_) rfl (by kernel_rfl) (by kernel_rfl) (by kernel_rfl) (fun _ _ _ h => h) (by rfl) ?_ (by exact hHeld) ?_
    rotate_left
    · intro w' hSw; obtain ⟨y1, y2⟩ := hSw; go_simp; (try with_reducible rfl)
    (try simp only [Act.put, List.setIfInBounds_toArray, List.set_cons_zero, List.set_cons_succ])
    have f9 : w9.frozen? ⟨tF, 8, none⟩ = false := free_of hF9
    have c9 : w9.cell? ⟨tF, 8, none⟩ = some work := cell_of hF9
    refine wpAnyH_ready (rs := [10]) (by kernel_rfl) (by simp) ?_
    refine next_at (i := 10) rfl (fun KK hKK => ?_) AllReadyH.nil
    go_simp
    have T9 := Turned.set w9 tF 8 (.slice (some ⟨work', 0, none⟩) 1 cw)
    have F10 := set_blk (i := 8) (v := .slice (some ⟨work', 0, none⟩) 1 cw) hF9
    generalize w9.setCell ⟨tF, 8, none⟩ (.slice (some ⟨work', 0, none⟩) 1 cw) = w10 at T9 F10 ⊢
    have F10 : w10.heap[tF]? = some (frC b g (.slice (some ⟨work', 0, none⟩) 1 cw)) := F10
    have h410 : w10.cell? ⟨t4, 0, none⟩ = some (.int .i64 0) ∧ w10.cell? ⟨t4, 1, none⟩ = some (.int .u16 a) := ⟨T9.cell (show t4 ≠ tF by have := T4F.out; omega) h49.1, T9.cell (show t4 ≠ tF by have := T4F.out; omega) h49.2⟩
    refine hKK.out _ _ (by exact h410) (fun hHeld => ?_)
    clear hKK KK
    (try simp only [Act.put, List.setIfInBounds_toArray, List.set_cons_zero, List.set_cons_succ])
    refine wpAnyH_done (by kernel_rfl) ?_ _
    refine NoPanic.normal ?_
    clear hHeld
    go_wp2_with fail
    go_ret
    have hown10 : Own w10 S 40 2 (.slice (some ⟨work', 0, none⟩) 1 cw) 1 (plC a) := (Own.kept (w' := w10) hown fun q hq => by
      simp only [Value.ownBlock, Option.some.injEq] at hq
      subst hq
      exact T9.block _ (by have := HTF.out; omega))
    refine ⟨rfl, _, mN, F10, ?_, ?_, hown10, MN.out, ?_⟩
    · exact (T9.block g (by have := HGF.out; omega)).trans ((hb9 g HGS.out).trans (L8.out.some GD.out))
    · have e9 : w9.heap[mN]? = w8.heap[mN]? := happ.block mN (Nat.lt_of_lt_of_le MNL.out L8.out.size) (fun e => NW.out mN MN.out e)
      exact (T9.block mN (by have := MN.out; have := HTF.out; have := HS0.out; omega)).trans (e9.trans (L8.out.some MD.out))
    · exact (KD.out.low (L8.out.mono (by have := HSZ.out; exact this))).trans (Kept.of hb9 happ.os happ.out happ.size T9)
end Go.Proofs.YtjkaoejcdboaiaaGreat
/- resolve, where no thunk stands. -/
namespace Go.Proofs.YtjkaoejcdboaiaaGreat
open Go.RowKit Go.Eng
set_option linter.unusedVariables false
set_option linter.unusedSectionVars false
set_option maxRecDepth 100000

set_option maxHeartbeats 4000000 in
theorem resolve_ok (w : World) (b : Nat) (a op d s imm aux bank size : Int) (hn : op ≠ 131)
    (hf : ∀ u, Low w.heap.size w u → Calls Tryz.prog 21 #[imgV b, plV a] u (fun e u' => e = .returned (.tuple #[insV op d s imm aux bank size, .int .i64 0]) ∧ Low u.heap.size u u')) :
    Calls Tryz.prog 18 #[imgV b, plV a] w (fun e w' => e = .returned (plV a) ∧ Low w.heap.size w w') := by
  have hn2 : (op == 131) = false := by simpa using hn
  obtain ⟨q, hq⟩ : ∃ q, w.heap.size = q := ⟨_, rfl⟩
  obtain ⟨a2, q2, u2⟩ := alloc_at (imgC b) hq
  obtain ⟨a3, q3, u3⟩ := alloc_at (.cells #[.int .i64 0, .int .u16 a] 40) q2
  obtain ⟨a4, q4, u4⟩ := alloc_at (.cells #[.int .i64 0, .int .u16 0] 40) q3
  have a2 := u4 _ _ (u3 _ _ a2)
  have a3 := u4 _ _ a3
  have l0 : Low w.heap.size w (((w.alloc (imgC b)).alloc (.cells #[.int .i64 0, .int .u16 a] 40)).alloc (.cells #[.int .i64 0, .int .u16 0] 40)) := (((Low.refl _ _).alloc (Nat.le_refl _) _).alloc (by simp) _).alloc (by simp; omega) _
  clear u2 u3 u4 q2 q3 q4
  have HF := Lib.hid hf
  clear hf
  go_enter Tryz.func18, Tryz.ntmps18
  go_upto_region 1 with fail
  have HQ := Lib.hid hq
  obtain ⟨t2, ht2⟩ : ∃ t, t = q := ⟨_, rfl⟩
  obtain ⟨t3, ht3⟩ : ∃ t, t = q + 1 := ⟨_, rfl⟩
  obtain ⟨t4, ht4⟩ : ∃ t, t = q + 1 + 1 := ⟨_, rfl⟩
  rw [← ht4] at a4 ⊢
  rw [← ht3] at a3 ⊢
  rw [show (Value.pointer (some { block := q, off := 0 })) = Value.pointer (some { block := t2, off := 0 }) by rw [ht2]]
  rw [← ht2] at a2
  have HT4 : Hid (w.heap.size ≤ t4) := Lib.hid (by omega)
  clear ht2 ht3 ht4 hq
  generalize (((w.alloc (imgC b)).alloc (.cells #[.int .i64 0, .int .u16 a] 40)).alloc (.cells #[.int .i64 0, .int .u16 0] 40)) = w1 at l0 a2 a3 a4 ⊢
  have L0 := Lib.hid l0
  have A4 := Lib.hid a4
  have HX : Hid (∀ w', Low w1.heap.size w1 w' → ImgAt t2 b w' ∧ w'.cell? ⟨t3, 0, none⟩ = some (.int .i64 0) ∧ w'.cell? ⟨t3, 1, none⟩ = some (.int .u16 a)) :=
    Lib.hid fun w' l => ⟨⟨cell_of (l.some a2), cell_of (l.some a2), cell_of (l.some a2), cell_of (l.some a2), cell_of (l.some a2)⟩, cell_of (l.some a3), cell_of (l.some a3)⟩
  clear a2 a3 a4 l0
  go_wp2_with fail
  go_loopw [7] (fun i wr => i = .int .i64 0 ∧ wr = w1) (fun i _ => 0)
  case atStart => exact ⟨rfl, rfl⟩
  case round =>
    obtain ⟨rfl, rfl⟩ := hrel
    obtain ⟨⟨y0, y1, y2, y3, y4⟩, g0, g1⟩ := HX.out _ (Low.refl _ _)
    have hfe := HF.out wr L0.out
    go_wp2_with (first
      | (go_at_call 21
         refine hfe.mono ?_
         rintro e' w2 ⟨rfl, l2⟩
         have L2 := Lib.hid l2
         obtain ⟨p0, p1⟩ := (HX.out _ l2).2
         have l3 : Low w2.heap.size w2 (w2.alloc (insC op d s imm aux bank size)) := (Low.refl _ _).alloc (Nat.le_refl _) _
         obtain ⟨v0, v1, v2, v3, v4, v5, v6⟩ := InsAt.new w2 op d s imm aux bank size
         obtain ⟨x0, x1⟩ := (HX.out _ (l2.trans (l3.mono l2.size))).2
         have h4 := (l2.trans (l3.mono l2.size)).some A4.out
         have cz0 := cell_of (j := 0) h4
         have fz0 := free_of (j := 0) h4
         have bz0 := set_blk (i := 0) (v := .int .i64 0) h4
         have cz1 := cell_of (j := 1) bz0
         have fz1 := free_of (j := 1) bz0
         have bz1 := set_blk (i := 1) (v := .int .u16 a) bz0
         have rz0 : ((w2.alloc (insC op d s imm aux bank size)).setCell ⟨t4, 0, none⟩ (.int .i64 0)).cell? ⟨t4, 0, none⟩ = some (.int .i64 0) := (cell_of bz0).trans (by simp)
         have rz1 : (((w2.alloc (insC op d s imm aux bank size)).setCell ⟨t4, 0, none⟩ (.int .i64 0)).setCell ⟨t4, 1, none⟩ (.int .u16 a)).cell? ⟨t4, 1, none⟩ = some (.int .u16 a) := (cell_of bz1).trans (by simp)
         have LZ := Lib.hid ((((L0.out.trans (l2.mono L0.out.size)).trans (l3.mono (Nat.le_trans L0.out.size l2.size))).setCell (g := t4) (i := 0) HT4.out (.int .i64 0)).setCell (g := t4) (i := 1) HT4.out (.int .u16 a))
         clear l2 l3))
    (try simp only [Exit.inBlock, Exit.then])
    refine bodyPost_ret (by simp [results, Tryz.results18, go_sem, rz0, rz1]; try rfl) rfl ?_
    exact ⟨rfl, LZ.out⟩

set_option maxHeartbeats 4000000 in
theorem resolve_err (w : World) (b : Nat) (a op d s imm aux bank size er : Int) (hn : er ≠ 0)
    (hf : ∀ u, Low w.heap.size w u → Calls Tryz.prog 21 #[imgV b, plV a] u (fun e u' => e = .returned (.tuple #[insV op d s imm aux bank size, .int .i64 er]) ∧ Low u.heap.size u u')) :
    Calls Tryz.prog 18 #[imgV b, plV a] w (fun e w' => e = .returned (plV a) ∧ Low w.heap.size w w') := by
  have hn2 : (er == 0) = false := by simpa using hn
  obtain ⟨q, hq⟩ : ∃ q, w.heap.size = q := ⟨_, rfl⟩
  obtain ⟨a2, q2, u2⟩ := alloc_at (imgC b) hq
  obtain ⟨a3, q3, u3⟩ := alloc_at (.cells #[.int .i64 0, .int .u16 a] 40) q2
  obtain ⟨a4, q4, u4⟩ := alloc_at (.cells #[.int .i64 0, .int .u16 0] 40) q3
  have a2 := u4 _ _ (u3 _ _ a2)
  have a3 := u4 _ _ a3
  have l0 : Low w.heap.size w (((w.alloc (imgC b)).alloc (.cells #[.int .i64 0, .int .u16 a] 40)).alloc (.cells #[.int .i64 0, .int .u16 0] 40)) := (((Low.refl _ _).alloc (Nat.le_refl _) _).alloc (by simp) _).alloc (by simp; omega) _
  clear u2 u3 u4 q2 q3 q4
  have HF := Lib.hid hf
  clear hf
  go_enter Tryz.func18, Tryz.ntmps18
  go_upto_region 1 with fail
  have HQ := Lib.hid hq
  obtain ⟨t2, ht2⟩ : ∃ t, t = q := ⟨_, rfl⟩
  obtain ⟨t3, ht3⟩ : ∃ t, t = q + 1 := ⟨_, rfl⟩
  obtain ⟨t4, ht4⟩ : ∃ t, t = q + 1 + 1 := ⟨_, rfl⟩
  rw [← ht4] at a4 ⊢
  rw [← ht3] at a3 ⊢
  rw [show (Value.pointer (some { block := q, off := 0 })) = Value.pointer (some { block := t2, off := 0 }) by rw [ht2]]
  rw [← ht2] at a2
  have HT4 : Hid (w.heap.size ≤ t4) := Lib.hid (by omega)
  clear ht2 ht3 ht4 hq
  generalize (((w.alloc (imgC b)).alloc (.cells #[.int .i64 0, .int .u16 a] 40)).alloc (.cells #[.int .i64 0, .int .u16 0] 40)) = w1 at l0 a2 a3 a4 ⊢
  have L0 := Lib.hid l0
  have A4 := Lib.hid a4
  have HX : Hid (∀ w', Low w1.heap.size w1 w' → ImgAt t2 b w' ∧ w'.cell? ⟨t3, 0, none⟩ = some (.int .i64 0) ∧ w'.cell? ⟨t3, 1, none⟩ = some (.int .u16 a)) :=
    Lib.hid fun w' l => ⟨⟨cell_of (l.some a2), cell_of (l.some a2), cell_of (l.some a2), cell_of (l.some a2), cell_of (l.some a2)⟩, cell_of (l.some a3), cell_of (l.some a3)⟩
  clear a2 a3 a4 l0
  go_wp2_with fail
  go_loopw [7] (fun i wr => i = .int .i64 0 ∧ wr = w1) (fun i _ => 0)
  case atStart => exact ⟨rfl, rfl⟩
  case round =>
    obtain ⟨rfl, rfl⟩ := hrel
    obtain ⟨⟨y0, y1, y2, y3, y4⟩, g0, g1⟩ := HX.out _ (Low.refl _ _)
    have hfe := HF.out wr L0.out
    go_wp2_with (first
      | (go_at_call 21
         refine hfe.mono ?_
         rintro e' w2 ⟨rfl, l2⟩
         have L2 := Lib.hid l2
         obtain ⟨p0, p1⟩ := (HX.out _ l2).2
         have l3 : Low w2.heap.size w2 (w2.alloc (insC op d s imm aux bank size)) := (Low.refl _ _).alloc (Nat.le_refl _) _
         obtain ⟨v0, v1, v2, v3, v4, v5, v6⟩ := InsAt.new w2 op d s imm aux bank size
         obtain ⟨x0, x1⟩ := (HX.out _ (l2.trans (l3.mono l2.size))).2
         have h4 := (l2.trans (l3.mono l2.size)).some A4.out
         have cz0 := cell_of (j := 0) h4
         have fz0 := free_of (j := 0) h4
         have bz0 := set_blk (i := 0) (v := .int .i64 0) h4
         have cz1 := cell_of (j := 1) bz0
         have fz1 := free_of (j := 1) bz0
         have bz1 := set_blk (i := 1) (v := .int .u16 a) bz0
         have rz0 : ((w2.alloc (insC op d s imm aux bank size)).setCell ⟨t4, 0, none⟩ (.int .i64 0)).cell? ⟨t4, 0, none⟩ = some (.int .i64 0) := (cell_of bz0).trans (by simp)
         have rz1 : (((w2.alloc (insC op d s imm aux bank size)).setCell ⟨t4, 0, none⟩ (.int .i64 0)).setCell ⟨t4, 1, none⟩ (.int .u16 a)).cell? ⟨t4, 1, none⟩ = some (.int .u16 a) := (cell_of bz1).trans (by simp)
         have LZ := Lib.hid ((((L0.out.trans (l2.mono L0.out.size)).trans (l3.mono (Nat.le_trans L0.out.size l2.size))).setCell (g := t4) (i := 0) HT4.out (.int .i64 0)).setCell (g := t4) (i := 1) HT4.out (.int .u16 a))
         clear l2 l3))
    (try simp only [Exit.inBlock, Exit.then])
    refine bodyPost_ret (by simp [results, Tryz.results18, go_sem, rz0, rz1]; try rfl) rfl ?_
    exact ⟨rfl, LZ.out⟩

end Go.Proofs.YtjkaoejcdboaiaaGreat
namespace Go.Proofs.YtjkaoejcdboaiaaGreat
open Go.RowKit Go.Eng
set_option linter.unusedVariables false
set_option linter.unusedSectionVars false
set_option maxRecDepth 100000

def insB (op imm size : Int) : AV := .agg [.int .i64 op, .int .i64 0, .int .i64 0, .int .u16 imm, .int .u16 0, .int .i64 0, .int .i64 size]
/-- What is known at the start: a framer's number of arguments, an empty map, a height. -/
noncomputable def effT : Tr ACell := ((Tr.lf : Tr ACell).set 5 ⟨.int .i64 1, 0⟩).set 6 ⟨.bool false, 0⟩
noncomputable def effSt : St := ⟨(((Tr.lf : Tr Rec).set 0 (.cells 74 effT 9 0 false)).set 1 (.map [] 0)).set 2 (recOf 78 [.int .i64 0, .int .i64 (-1), .map 1]), 3, 2⟩
noncomputable def effRun (op imm size : Int) : Bool := @runFS k0 Tryz.prog 100000 22 effSt [.ptr 0 0 0, .ptr 2 0 0, insB op imm size] (fun v _ => AV.beq v (.bool false))
def effRho (tF m tH : Nat) : Rho := fun id ep => if ep = 0 then (match id with | 0 => some ⟨tF, 0, 9⟩ | 1 => some ⟨m, 0, 0⟩ | 2 => some ⟨tH, 0, 3⟩ | _ => none) else none
theorem effT_get (j : Nat) (x : ACell) (h : effT.get j = some x) : (j = 5 ∧ x = ⟨.int .i64 1, 0⟩) ∨ (j = 6 ∧ x = ⟨.bool false, 0⟩) := by
  unfold effT at h
  by_cases h6 : j = 6
  · subst h6; rw [Tr.get_set_same] at h; cases h; exact .inr ⟨rfl, rfl⟩
  · rw [Tr.get_set_ne _ _ (by omega)] at h
    by_cases h5 : j = 5
    · subst h5; rw [Tr.get_set_same] at h; cases h; exact .inl ⟨rfl, rfl⟩
    · rw [Tr.get_set_ne _ _ (by omega), Tr.get_lf] at h; cases h
theorem effect_bad {op imm size : Int} (h : effRun op imm size = true) (w : World) (tF tH b g m : Nat) (work : Value) (hF : w.heap[tF]? = some (frC b g work)) (hm : w.heap[m]? = some (.map #[] 0)) (hH : w.heap[tH]? = some (.cells #[.int .i64 0, .int .i64 (-1), .map (some m)] 78 (0, 0)))
    (hFH : tF ≠ tH) (hFm : tF ≠ m) (hmH : m ≠ tH) :
    Calls Tryz.prog 22 #[.pointer (some ⟨tF, 0, none⟩), .pointer (some ⟨tH, 0, none⟩), insV op 0 0 imm 0 0 size] w (fun e w' => e = .returned (.bool false) ∧ Kept w.heap.size tH tH w w') := by
  letI := s0
  letI := k0
  haveI : HooksOK Tryz.prog := ⟨fun f h hk => by cases hk⟩
  have g0 : effSt.heap.get 0 = some (.cells 74 effT 9 0 false) := by
    show ((((Tr.lf : Tr Rec).set 0 _).set 1 _).set 2 _).get 0 = _
    rw [Tr.get_set_ne _ _ (by decide), Tr.get_set_ne _ _ (by decide), Tr.get_set_same]
  have g1 : effSt.heap.get 1 = some (.map [] 0) := by
    show ((((Tr.lf : Tr Rec).set 0 _).set 1 _).set 2 _).get 1 = _
    rw [Tr.get_set_ne _ _ (by decide), Tr.get_set_same]
  have g2 : effSt.heap.get 2 = some (recOf 78 [.int .i64 0, .int .i64 (-1), .map 1]) := by
    show ((((Tr.lf : Tr Rec).set 0 _).set 1 _).set 2 _).get 2 = _
    rw [Tr.get_set_same]
  have r1 : effRho tF m tH 1 0 = some ⟨m, 0, 0⟩ := rfl
  have cases3 : ∀ id ep p, effRho tF m tH id ep = some p → ep = 0 ∧ ((id = 0 ∧ p = ⟨tF, 0, 9⟩) ∨ (id = 1 ∧ p = ⟨m, 0, 0⟩) ∨ (id = 2 ∧ p = ⟨tH, 0, 3⟩)) := by
    intro id ep p hp
    unfold effRho at hp
    split at hp
    · rename_i he
      refine ⟨he, ?_⟩
      split at hp
      · cases hp; exact .inl ⟨rfl, rfl⟩
      · cases hp; exact .inr (.inl ⟨rfl, rfl⟩)
      · cases hp; exact .inr (.inr ⟨rfl, rfl⟩)
      · cases hp
    · cases hp
  have hs : SRel (fun q => q < w.heap.size ∧ q ≠ tH) (effRho tF m tH) effSt w := by
    refine ⟨fun id ep p hp => ?_, fun id ep p id' ep' p' hp hp' he => ?_, fun q hq => hq.1⟩
    · obtain ⟨rfl, ⟨rfl, rfl⟩ | ⟨rfl, rfl⟩ | ⟨rfl, rfl⟩⟩ := cases3 _ _ _ hp
      · refine ⟨fun _ => rfl, heap_lt hF, show 0 < 3 by decide, _, g0, ?_⟩
        show RecRel _ 0 _ _ w.heap[tF]?
        rw [hF]
        refine ⟨_, 0, 0, rfl, fun _ => ⟨rfl, rfl⟩, fun i h1 h2 => by omega, rfl, ⟨Nat.le_refl _, fun i x hx => ?_⟩, fun i v tag h1 h2 h3 h4 => ?_, fun _ i h1 h2 => by show i - 0 < 9; omega⟩
        · rcases effT_get i x hx with ⟨_, rfl⟩ | ⟨_, rfl⟩ <;> exact Nat.le_refl _
        · rcases effT_get i _ h2 with ⟨rfl, e⟩ | ⟨rfl, e⟩
          · cases e; exact ⟨_, rfl, .int _ _⟩
          · cases e; exact ⟨_, rfl, .bool _⟩
      · refine ⟨fun _ => rfl, heap_lt hm, show 1 < 3 by decide, _, g1, ?_⟩
        show RecRel _ 0 _ _ w.heap[m]?
        rw [hm]
        exact ⟨rfl, _, rfl, .nil⟩
      · refine ⟨fun hq => (hq.2 rfl).elim, heap_lt hH, show 2 < 3 by decide, _, g2, ?_⟩
        show RecRel _ 0 _ _ w.heap[tH]?
        exact recOf_rel (cs := #[.int .i64 0, .int .i64 (-1), .map (some m)]) hH (.cons _ _ _ _ (.int _ _) (.cons _ _ _ _ (.int _ _) (.cons _ _ _ _ (.map 1 _ r1) .nil)))
    · obtain ⟨rfl, ⟨rfl, rfl⟩ | ⟨rfl, rfl⟩ | ⟨rfl, rfl⟩⟩ := cases3 _ _ _ hp <;> obtain ⟨rfl, ⟨rfl, rfl⟩ | ⟨rfl, rfl⟩ | ⟨rfl, rfl⟩⟩ := cases3 _ _ _ hp'
      · exact ⟨rfl, rfl⟩
      · exact (hFm he).elim
      · exact (hFH he).elim
      · exact (hFm he.symm).elim
      · exact ⟨rfl, rfl⟩
      · exact (hmH he).elim
      · exact (hFH he.symm).elim
      · exact (hmH he.symm).elim
      · exact ⟨rfl, rfl⟩
  have ha : VsRel (effRho tF m tH) [.ptr 0 0 0, .ptr 2 0 0, insB op imm size] (#[.pointer (some ⟨tF, 0, none⟩), .pointer (some ⟨tH, 0, none⟩), insV op 0 0 imm 0 0 size] : Array Value).toList := by
    refine .cons _ _ _ _ (.ptr 0 0 0 ⟨tF, 0, 9⟩ rfl (Nat.le_refl _)) (.cons _ _ _ _ (.ptr 2 0 0 ⟨tH, 0, 3⟩ rfl (Nat.le_refl _)) (.cons _ _ _ _ (.agg _ _ ?_) .nil))
    exact .cons _ _ _ _ (.int _ _) (.cons _ _ _ _ (.int _ _) (.cons _ _ _ _ (.int _ _) (.cons _ _ _ _ (.int _ _) (.cons _ _ _ _ (.int _ _) (.cons _ _ _ _ (.int _ _) (.cons _ _ _ _ (.int _ _) .nil))))))
  refine (runFS_calls follows hs ha h).mono ?_
  rintro e w' ⟨v, st', ρ', v', rfl, q1, q2, q3, q4⟩
  have e := AV.eq_of_beq _ _ q1
  subst e
  cases q2
  exact ⟨rfl, ⟨q4.os, q4.out, q4.size, fun q hq hne _ => q4.low q ⟨hq, hne⟩⟩⟩
theorem eff_lds0 : effRun 160 0 3 = true := by decide +kernel
theorem eff_lds1 : effRun 160 1 3 = true := by decide +kernel
theorem eff_lds3 : effRun 160 3 3 = true := by decide +kernel
theorem eff_pop : effRun 17 0 2 = true := by decide +kernel
theorem eff_ldf : effRun 162 0 3 = true := by decide +kernel
theorem eff_drop : effRun 21 1 2 = true := by decide +kernel
end Go.Proofs.YtjkaoejcdboaiaaGreat
