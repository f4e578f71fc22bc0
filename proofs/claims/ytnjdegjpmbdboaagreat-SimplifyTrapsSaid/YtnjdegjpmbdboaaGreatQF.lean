/- merge of a graph of one block. -/
import Derived.Test.YtnjdegjpmbdboaaGreatQE
import Derived.Laws.IdiomRangeMap
namespace Go.Proofs.YtnjdegjpmbdboaaGreat
open Go.RowKit
set_option linter.unusedVariables false
theorem range_empty {P : Program} {w : World} {t k e : TypeId} {m : Nat} (ht : P.underlying t = some (.map k e)) (h : Empty w m) : ∃ o, (Instr.range t (.map (some m))).run P w = .ok (.pointer (some ⟨w.heap.size, 0, none⟩)) (w.alloc o) ∧ ∃ a, o = .mapIter (some m) a #[] a := by
  obtain ⟨cl, hg⟩ := h
  exact ⟨_, run_range_map w t k e m #[] cl ht hg, cl, rfl⟩
theorem next_empty {P : Program} {w : World} {ty : TypeId} {r m a b : Nat} (hr : w.heap[r]? = some (.mapIter (some m) a #[] b)) (h : Empty w m) : (Instr.next (.pointer (some ⟨r, 0, none⟩)) false ty).run P w = .ok (.tuple #[.bool false]) w := by
  obtain ⟨cl, hg⟩ := h
  simp [Instr.next, getObj, Sem.run_bind, Sem.run, hr, hg, Result.andThen, choose, Question.forced]
set_option maxRecDepth 100000 in
set_option maxHeartbeats 8000000 in
theorem merge_any (w : World) (gr bk al df nm ob cm om : Nat) (next : Int) (Pp : Option Addr) (pc : Nat) (A : Option Addr) (n c : Nat) (T : Option Addr) (tc : Nat) (l : List Opn) (h : Gr w gr bk al df nm ob cm om next Pp pc A n c T tc l) :
    Calls Tryz.prog 15 #[.pointer (some ⟨gr, 0, none⟩)] w (fun e w' => e = .returned (.bool false) ∧ Chs [bk] w w' ∧ ∃ T' tc', Gr w' gr bk al df nm ob cm om next Pp pc A n c T' tc' l) := by
  have hmf : ∀ (fn : Fn) (first cap : Array Value) (w : World), (Instr.makeFunc fn first cap).run Tryz.prog w = .ok (.func fn first cap) w := fun _ _ _ _ => rfl
  have hmm : ∀ u : World, (Instr.makeMap 94 none).run Tryz.prog u = .ok (.map (some u.heap.size)) (u.alloc (.map #[] 0)) := fun u => by kernel_rfl
  have hbl := blocks_any w gr bk tc T (cell_of h.g) (cell_of h.b)
  have H := Lib.hid h
  clear h
  go_enter Tryz.func15, Tryz.ntmps15
  go_upto_region 2 with (first
    | (go_at_call 38; refine hbl.mono ?_; rintro e w1 ⟨l1, r, cr, rfl, x1, hr1, hcr⟩))
  have hl2 : Low w1.heap.size w1 (w1.alloc (.map #[] 0)) := (Low.refl _ w1).alloc (Nat.le_refl _) _
  obtain ⟨X, c', hsl⟩ := tail_one r cr hcr
  go_upto_region 3 with fail
  clear hmm
  have G2 := Lib.hid ((H.out.low l1).low hl2)
  have L2 := Lib.hid (l1.trans (hl2.mono l1.size))
  have x2 : (w1.alloc (.map #[] 0)).cell? ⟨r, 0, none⟩ = some (.pointer (some ⟨bk, 0, none⟩)) := (World.cell?_alloc_lt w1 _ _ (cell_lt x1)).trans x1
  clear x1 hl2 hbl
  generalize w1.heap.size = m4
  generalize w1.alloc (.map #[] 0) = w2 at G2 L2 x2 ⊢
  have hval := values_any w2 r cr bk tc T (.map (some m4)) x2 (cell_of G2.out.b) hcr
  have hr2 := cell_lt x2
  go_upto_region 4 with (first
    | (go_at_call 42; refine hval.mono ?_; rintro e w3 ⟨l3, m, rfl, e3⟩))
  have e4 : Empty (w3.alloc (.cells #[.map (some m)] 53)) m := e3.low ((Low.refl _ w3).alloc (Nat.le_refl _) _)
  have G4 := Lib.hid ((G2.out.low l3).low ((Low.refl _ w3).alloc (Nat.le_refl _) (.cells #[.map (some m)] 53)))
  have L4 := Lib.hid (L2.out.trans (((l3.alloc l3.size (.cells #[.map (some m)] 53))).mono L2.out.size))
  have c4 := cell_of (j := 0) (heap_new w3 (.cells #[.map (some m)] 53))
  have x4 : (w3.alloc (.cells #[.map (some m)] 53)).cell? ⟨r, 0, none⟩ = some (.pointer (some ⟨bk, 0, none⟩)) := (World.cell?_alloc_lt w3 _ _ (Nat.lt_of_lt_of_le hr2 l3.size)).trans ((World.cell?_of_block (l3.block _ hr2)).trans x2)
  clear e3 l3 x2 hval hr2
  generalize w3.heap.size = z4 at c4 ⊢
  generalize w3.alloc (.cells #[.map (some m)] 53) = w4 at e4 G4 L4 c4 x4 ⊢
  go_wp2_with fail
  go_loopw [7, 6] (fun b v wr => b = .bool true ∧ wr = w4) (fun _ _ _ => 0)
  case atStart => exact ⟨rfl, rfl⟩
  case round =>
    obtain ⟨rfl, rfl⟩ := hrel
    obtain ⟨w4, rfl⟩ : ∃ u, u = wr := ⟨_, rfl⟩
    obtain ⟨ob1, hrg, a, rfl⟩ := range_empty (P := Tryz.prog) (t := 53) Tryz.underlying53 e4
    have l5 : Low w4.heap.size w4 (w4.alloc (.mapIter (some m) a #[] a)) := (Low.refl _ w4).alloc (Nat.le_refl _) _
    have hnx : ∀ ty, (Instr.next (.pointer (some ⟨w4.heap.size, 0, none⟩)) false ty).run Tryz.prog (w4.alloc (.mapIter (some m) a #[] a)) = .ok (.tuple #[.bool false]) (w4.alloc (.mapIter (some m) a #[] a)) := fun ty => next_empty (heap_new _ _) (e4.low l5)
    go_upto_region 9 with fail
    have x5 : (w4.alloc (.mapIter (some m) a #[] a)).cell? ⟨r, 0, none⟩ = some (.pointer (some ⟨bk, 0, none⟩)) := (World.cell?_alloc_lt w4 _ _ (cell_lt x4)).trans x4
    have g5 := G4.out.low l5
    have b5 : (w4.alloc (.mapIter (some m) a #[] a)).cell? ⟨bk, 4, none⟩ = some (.slice T 0 tc) := cell_of g5.b
    have hres := resolve_any _ gr bk al df nm ob cm om next Pp pc A n c T tc l g5
    have L5 := Lib.hid (L4.out.trans (l5.mono L4.out.size))
    clear hrg c4 x4 e4 G4 L4 l5 g5 G2 L2
    generalize w4.heap.size = z5 at hnx ⊢
    generalize w4.alloc (.mapIter (some m) a #[] a) = w5 at hnx x5 b5 hres L5 ⊢
    go_loopw [44] (fun b wr => wr = w5) (fun _ _ => 0)
    case atStart => rfl
    case round =>
      obtain rfl := hrel
      go_wp2_with fail
      obtain ⟨w5, rfl⟩ : ∃ u, u = wr := ⟨_, rfl⟩
      go_loopw [63] (fun i wr => (i = .int .i64 0 ∨ i = .int .i64 1) ∧ wr = w5) (fun i _ => 1 - (intOf i).toNat)
      case atStart => exact ⟨.inl rfl, rfl⟩
      case round =>
        obtain ⟨rfl | rfl, rfl⟩ := hrel
        · go_wp2_with fail
          obtain ⟨w5, rfl⟩ : ∃ u, u = wr := ⟨_, rfl⟩
          go_loopw [72] (fun i wr => i = .int .i64 0 ∧ wr = w5) (fun _ _ => 0)
          case atStart => exact ⟨rfl, rfl⟩
          case round =>
            obtain ⟨rfl, rfl⟩ := hrel
            go_wp2_with fail
            exact ⟨by simp, by decide⟩
        · go_wp2_with fail
          obtain ⟨w5, rfl⟩ : ∃ u, u = wr := ⟨_, rfl⟩
          go_loopw [98, 11] (fun i b wr => i = .int .i64 0 ∧ b = .bool false ∧ wr = w5) (fun _ _ _ => 0)
          case atStart => exact ⟨rfl, rfl, rfl⟩
          case round =>
            obtain ⟨rfl, rfl, rfl⟩ := hrel
            go_wp2_with (first
              | (go_at_call 37; refine hres.mono ?_; rintro e w6 ⟨rfl, ch6, T', tc', g6⟩))
            go_ret
            exact ⟨rfl, (Chs.of_low L5.out).trans (Chs.of_ch ch6 (by simp)), T', tc', g6⟩
end Go.Proofs.YtnjdegjpmbdboaaGreat
