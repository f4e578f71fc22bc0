/- decide of a graph of one block. -/
import Derived.Test.YtnjdegjpmbdboaaGreatQF
namespace Go.Proofs.YtnjdegjpmbdboaaGreat
open Go.RowKit
set_option linter.unusedVariables false
set_option maxRecDepth 100000 in
set_option maxHeartbeats 8000000 in
theorem terminator_any (w : World) (gv : Value) (bk : Nat) (h2 : w.cell? ⟨bk, 2, none⟩ = some (.int .i64 4)) : Calls Tryz.prog 45 #[gv, .pointer (some ⟨bk, 0, none⟩)] w (fun e w' => e = .returned (.bool false) ∧ Low w.heap.size w w') := by
  have hl : Low w.heap.size w (w.alloc (.cells #[.pointer (some ⟨bk, 0, none⟩)] 72)) := (Low.refl _ w).alloc (Nat.le_refl _) _
  have h2' := (World.cell?_alloc_lt w (.cells #[.pointer (some ⟨bk, 0, none⟩)] 72) _ (cell_lt h2)).trans h2
  go_enter Tryz.func45, Tryz.ntmps45
  go_wp2_with fail
  go_ret
  exact ⟨rfl, hl⟩
set_option maxRecDepth 100000 in
set_option maxHeartbeats 8000000 in
theorem decide_any (w : World) (gr bk al df nm ob cm om : Nat) (next : Int) (Pp : Option Addr) (pc : Nat) (A : Option Addr) (n c : Nat) (T : Option Addr) (tc : Nat) (l : List Opn) (h : Gr w gr bk al df nm ob cm om next Pp pc A n c T tc l) :
    Calls Tryz.prog 16 #[.pointer (some ⟨gr, 0, none⟩)] w (fun e w' => e = .returned (.bool false) ∧ Low w.heap.size w w') := by
  have hbl := blocks_any w gr bk tc T (cell_of h.g) (cell_of h.b)
  have H := Lib.hid h
  clear h
  go_enter Tryz.func16, Tryz.ntmps16
  go_wp2_with (first
    | (go_at_call 38; refine hbl.mono ?_; rintro e w1 ⟨l1, r, cr, rfl, x1, hr1, hcr⟩; have G1 := Lib.hid (H.out.low l1); have L1 := Lib.hid l1; clear l1))
  go_loopw [9, 3] (fun i b wr => b = .bool false ∧ ((i = .int .i64 0 ∧ wr = w1) ∨ (i = .int .i64 1 ∧ Low w.heap.size w wr))) (fun i _ _ => 1 - (intOf i).toNat)
  case atStart => exact ⟨rfl, .inl ⟨rfl, rfl⟩⟩
  case round =>
    obtain ⟨rfl, ⟨rfl, rfl⟩ | ⟨rfl, hl⟩⟩ := hrel
    · have hte := terminator_any wr (.pointer (some ⟨gr, 0, none⟩)) bk (cell_of G1.out.b)
      obtain ⟨w1, rfl⟩ : ∃ u, u = wr := ⟨_, rfl⟩
      go_wp2_with fail
      go_loopw [3] (fun b wr => b = .bool false ∧ wr = w1) (fun _ _ => 0)
      case atStart => exact ⟨rfl, rfl⟩
      case round =>
        obtain ⟨rfl, rfl⟩ := hrel
        go_wp2_with (first
          | (go_at_call 45; refine hte.mono ?_; rintro e w6 ⟨rfl, l6⟩))
        exact ⟨⟨rfl, .inr ⟨rfl, L1.out.trans (l6.mono L1.out.size)⟩⟩, by decide⟩
    · go_wp2_with fail
      go_ret
      exact ⟨rfl, hl⟩
/-- A map of integers to integers. -/
def UMap (w : World) (g : Nat) : Prop := ∃ m, IMap w g m ∧ ∀ p ∈ m, ∃ k, p.2 = .int .i64 k
theorem UMap.keep {w w' : World} {g : Nat} (h : UMap w g) (hk : w'.heap[g]? = w.heap[g]?) : UMap w' g := by
  obtain ⟨m, ⟨es, cl, hg, he⟩, hp⟩ := h
  exact ⟨m, ⟨es, cl, hk.trans hg, he⟩, hp⟩
theorem UMap.lt {w : World} {g : Nat} (h : UMap w g) : g < w.heap.size := by
  obtain ⟨m, ⟨es, cl, hg, he⟩, hp⟩ := h
  exact heap_lt hg
theorem putI_mem {p : Int × Value} {r : Int} {v : Value} : ∀ (m : List (Int × Value)), p ∈ putI m r v → p ∈ m ∨ p = (r, v)
  | [], h => by simp [putI] at h; exact .inr h
  | q :: m, h => by
    unfold putI at h
    split at h
    · rcases List.mem_cons.1 h with h | h
      · exact .inr h
      · exact .inl (List.mem_cons_of_mem _ h)
    · rcases List.mem_cons.1 h with h | h
      · left; rw [h]; exact List.mem_cons_self ..
      · rcases putI_mem m h with h | h
        · exact .inl (List.mem_cons_of_mem _ h)
        · exact .inr h
theorem getI_mem {k : Int} {v : Value} {m : List (Int × Value)} (h : getI m k = some v) : ∃ p ∈ m, p.2 = v := by
  unfold getI at h
  obtain ⟨p, hp, he⟩ := Option.map_eq_some_iff.1 h
  exact ⟨p, List.mem_of_find?_eq_some hp, he⟩
theorem setBlock_at {w : World} {g : Nat} (o : Obj) (h : g < w.heap.size) : (Go.ChangeMaps.setBlock w g o).heap[g]? = some o := by simp [Go.ChangeMaps.setBlock, h]
/-- A count is looked up; a count is laid. -/
theorem UMap.get {w : World} {g : Nat} (h : UMap w g) (k : Int) : ∃ z, (Instr.lookup 53 (.map (some g)) (.int .i64 k) false).run Tryz.prog w = .ok (.int .i64 z) w := by
  obtain ⟨m, hm, hp⟩ := h
  have := lookup_i (P := Tryz.prog) (t := 53) Tryz.underlying53 Tryz.underlying3 hm (k := k) (z := .int .i64 0) (by kernel_rfl) false
  cases hg : getI m k with
  | none => exact ⟨0, by rw [this, hg]; rfl⟩
  | some v =>
    obtain ⟨p, hpm, rfl⟩ := getI_mem hg
    obtain ⟨z, hz⟩ := hp p hpm
    exact ⟨z, by rw [this, hg]; simp [hz]⟩
theorem UMap.put {w : World} {g : Nat} (h : UMap w g) (k z : Int) : ∃ o, (Instr.mapUpdate 53 (.map (some g)) (.int .i64 k) (.int .i64 z)).run Tryz.prog w = .ok () (Go.ChangeMaps.setBlock w g o) ∧ UMap (Go.ChangeMaps.setBlock w g o) g := by
  have hlt := h.lt
  obtain ⟨m, hm, hp⟩ := h
  obtain ⟨es, c, hu, he⟩ := update_i (P := Tryz.prog) (t := 53) Tryz.underlying53 Tryz.underlying3 hm (k := k) (.int .i64 z)
  refine ⟨.map es c, hu, putI m k (.int .i64 z), ⟨es, c, setBlock_at _ hlt, he⟩, fun p hpm => ?_⟩
  rcases putI_mem m hpm with h | rfl
  · exact hp p h
  · exact ⟨z, rfl⟩
/-- A fact that speaks of blocks below S alone, beside what has changed. -/
theorem Inv.chs (w0 : World) (B : List Nat) (J : World → Prop) (hJ : ∀ w w', J w → Low w0.heap.size w w' → J w') : Inv w0.heap.size (fun w => Chs B w0 w ∧ J w) := by
  refine ⟨fun w h => h.1.size, fun w o h => ?_, fun w g i v hg h => ?_, fun w h => ⟨h.1.drew, hJ _ _ h.2 (Low.refl _ w).drew⟩⟩
  · have hl : Low w0.heap.size w (w.alloc o) := (Low.refl _ w).alloc h.1.size o
    exact ⟨h.1.tail hl, hJ _ _ h.2 hl⟩
  · have hl : Low w0.heap.size w (w.setCell ⟨g, i, none⟩ v) := (Low.refl _ w).setCell hg v
    exact ⟨h.1.tail hl, hJ _ _ h.2 hl⟩
set_option maxRecDepth 100000 in
set_option maxHeartbeats 8000000 in
theorem note_any (w : World) (z um : Nat) (hz : w.cell? ⟨z, 0, none⟩ = some (.map (some um))) (hu : UMap w um) (v : Int) : Calls Tryz.prog 46 #[.int .i64 v, .pointer (some ⟨z, 0, none⟩)] w (fun e w' => e = .returned (.int .i64 v) ∧ Chs [um] w w' ∧ UMap w' um ∧ w'.heap.size = w.heap.size) := by
  obtain ⟨k, hk⟩ := hu.get v
  obtain ⟨f, hf⟩ := Classical.axiomOfChoice (hu.put v)
  have hp : ∀ x, (Instr.mapUpdate 53 (.map (some um)) (.int .i64 v) (.int .i64 x)).run Tryz.prog w = .ok () (Go.ChangeMaps.setBlock w um (f x)) := fun x => (hf x).1
  have HF := Lib.hid (fun x => (hf x).2)
  clear hf hu
  go_enter Tryz.func46, Tryz.ntmps46
  go_wp2_with fail
  go_ret
  exact ⟨rfl, Chs.setBlock _ (List.mem_singleton.2 rfl) _, HF.out _, by simp [Go.ChangeMaps.setBlock]⟩
end Go.Proofs.YtnjdegjpmbdboaaGreat
