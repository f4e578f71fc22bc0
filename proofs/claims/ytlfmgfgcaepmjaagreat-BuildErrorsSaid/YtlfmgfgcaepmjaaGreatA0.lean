/- Worlds: cells, blocks, what is left as it was. -/
import Derived.RowKit3
import Derived.Below
import Derived.WalkKit
import Derived.BigQuiet
set_option linter.unusedSimpArgs false
set_option linter.unusedVariables false
set_option linter.unusedSectionVars false
set_option linter.unusedSimpArgs false
set_option linter.unusedVariables false
set_option linter.unusedSectionVars false
namespace Go.Proofs.YtlfmgfgcaepmjaaGreat
open Go.RowKit
set_option linter.unusedVariables false
theorem cell_of {w : World} {g j : Nat} {cs : Array Value} {e : TypeId} {fr : Nat × Nat} (h : w.heap[g]? = some (.cells cs e fr)) : w.cell? ⟨g, j, none⟩ = cs[j]? := by
  simp [World.cell?, h]
theorem free_of {w : World} {g j : Nat} {cs : Array Value} {e : TypeId} (h : w.heap[g]? = some (.cells cs e (0, 0))) : w.frozen? ⟨g, j, none⟩ = false := by simp [World.frozen?, h]
theorem heap_lt {w : World} {g : Nat} {o : Obj} (h : w.heap[g]? = some o) : g < w.heap.size := by
  rcases Nat.lt_or_ge g w.heap.size with hlt | hge
  · exact hlt
  · rw [Array.getElem?_eq_none hge] at h; cases h
theorem cell_lt {w : World} {p : Addr} {v : Value} (h : w.cell? p = some v) : p.block < w.heap.size := by
  rcases Nat.lt_or_ge p.block w.heap.size with hlt | hge
  · exact hlt
  · have : w.heap[p.block]? = none := Array.getElem?_eq_none hge
    unfold World.cell? at h
    simp [this] at h
theorem heap_new (w : World) (o : Obj) : (w.alloc o).heap[w.heap.size]? = some o := by
  show (w.heap.push o)[w.heap.size]? = _
  simp
theorem heap_old {w : World} {g : Nat} {ob : Obj} (o : Obj) (h : w.heap[g]? = some ob) : (w.alloc o).heap[g]? = some ob := (Below.heap_alloc w o g (heap_lt h)).trans h
theorem set_blk {w : World} {g i : Nat} {v : Value} {cs : Array Value} {e : TypeId} {fr : Nat × Nat} (h : w.heap[g]? = some (.cells cs e fr)) : (w.setCell ⟨g, i, none⟩ v).heap[g]? = some (.cells (cs.setIfInBounds i v) e fr) := by
  obtain ⟨hlt, he⟩ := Array.getElem?_eq_some_iff.1 h
  simp only [World.setCell, Option.isSome, Bool.false_eq_true, if_false]
  rw [Array.getElem?_eq_getElem (by rw [Array.size_modify]; exact hlt), Array.getElem_modify_self, he]
theorem set_other {w : World} {g i b : Nat} {v : Value} (h : b ≠ g) : (w.setCell ⟨g, i, none⟩ v).heap[b]? = w.heap[b]? := by
  simp only [World.setCell]
  rw [Array.getElem?_modify, if_neg (Ne.symm h)]
theorem set_size (w : World) (a : Addr) (v : Value) : (w.setCell a v).heap.size = w.heap.size := by simp [World.setCell]
/-- A cell is given the value that it has. -/
theorem set_same {w : World} {g i : Nat} {v : Value} {cs : Array Value} {e : TypeId} {fr : Nat × Nat} (h : w.heap[g]? = some (.cells cs e fr)) (hv : cs[i]? = some v) : (w.setCell ⟨g, i, none⟩ v).heap[g]? = some (.cells cs e fr) := by
  rw [set_blk h]
  have : cs.setIfInBounds i v = cs := by
    apply Array.ext_getElem?
    intro j
    rw [Array.getElem?_setIfInBounds]
    split
    · rename_i hij
      subst hij
      split
      · exact hv.symm
      · rename_i hlt
        rw [Array.getElem?_eq_none (by omega)] at hv; cases hv
    · rfl
  rw [this]
/-- What stood below S is as it was, and the world's other parts too. -/
structure Low (S : Nat) (w w' : World) : Prop where
  os : w'.os = w.os
  out : w'.output = w.output
  size : w.heap.size ≤ w'.heap.size
  block : ∀ g, g < S → w'.heap[g]? = w.heap[g]?
section
variable {S S' : Nat} {w w' w'' : World}
theorem Low.refl (S : Nat) (w : World) : Low S w w := ⟨rfl, rfl, Nat.le_refl _, fun _ _ => rfl⟩
theorem Low.trans (h : Low S w w') (h' : Low S w' w'') : Low S w w'' := ⟨h'.os.trans h.os, h'.out.trans h.out, Nat.le_trans h.size h'.size, fun g hg => (h'.block g hg).trans (h.block g hg)⟩
theorem Low.mono (h : Low S w w') (hS : S' ≤ S) : Low S' w w' := ⟨h.os, h.out, h.size, fun g hg => h.block g (by omega)⟩
theorem Low.alloc (h : Low S w w') (hS : S ≤ w'.heap.size) (o : Obj) : Low S w (w'.alloc o) := h.trans ⟨rfl, rfl, by simp, fun g hg => Below.heap_alloc _ _ _ (by omega)⟩
theorem Low.setCell (h : Low S w w') {g i : Nat} (hg : S ≤ g) (v : Value) : Low S w (w'.setCell ⟨g, i, none⟩ v) := h.trans ⟨rfl, rfl, by rw [set_size]; exact Nat.le_refl _, fun b hb => set_other (by omega)⟩
theorem Low.drew (h : Low S w w') : Low S w w'.drew := ⟨h.os, h.out, h.size, h.block⟩
theorem Low.drewN (h : Low S w w') (n : Nat) : Low S w (w'.drewN n) := ⟨h.os, h.out, h.size, h.block⟩
theorem Low.of_below (h : Below S w w') : Low S w w' := ⟨h.os, h.output, h.size, h.block⟩
theorem Low.obj (h : Low S w w') {g : Nat} {o : Obj} (hg : g < S) (ho : w.heap[g]? = some o) : w'.heap[g]? = some o := (h.block g hg).trans ho
theorem Low.some (h : Low w.heap.size w w') {g : Nat} {o : Obj} (ho : w.heap[g]? = some o) : w'.heap[g]? = some o := h.obj (heap_lt ho) ho
end
/-- A fact that new blocks, and stores into blocks from S on, leave as it is. -/
structure Inv (S : Nat) (I : World → Prop) : Prop where
  size : ∀ w, I w → S ≤ w.heap.size
  alloc : ∀ w o, I w → I (w.alloc o)
  set : ∀ w g i v, S ≤ g → I w → I (w.setCell ⟨g, i, none⟩ v)
  drew : ∀ w, I w → I w.drew
theorem Inv.more {S S' : Nat} {I : World → Prop} (h : Inv S I) (hS : S ≤ S') : Inv S' (fun w => I w ∧ S' ≤ w.heap.size) :=
  ⟨fun w hw => hw.2, fun w o hw => ⟨h.alloc w o hw.1, by simp; omega⟩, fun w g i v hg hw => ⟨h.set w g i v (by omega) hw.1, by rw [set_size]; exact hw.2⟩, fun w hw => ⟨h.drew w hw.1, hw.2⟩⟩
/-- What is said of blocks below S. -/
theorem Inv.low (S : Nat) (w0 : World) (hS : S ≤ w0.heap.size) : Inv S (fun w => Low S w0 w) :=
  ⟨fun w hw => Nat.le_trans hS hw.size, fun w o hw => hw.alloc (Nat.le_trans hS hw.size) o, fun w g i v hg hw => hw.setCell hg v, fun w hw => hw.drew⟩
end Go.Proofs.YtlfmgfgcaepmjaaGreat
