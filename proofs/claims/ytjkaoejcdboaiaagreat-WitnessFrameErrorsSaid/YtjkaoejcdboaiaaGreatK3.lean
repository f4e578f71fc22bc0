/- guard runs its closure, and turns a panic with a failure into its result. -/
import Derived.RowKit3
import Derived.Below
import Derived.WalkKit
import Derived.BigQuiet
import Derived.Test.YtjkaoejcdboaiaaGreatRows
import Derived.Tactics
import Derived.Tactics2
import Derived.Defers
import Derived.Recover
import Derived.Laws.Pointers
set_option linter.unusedSimpArgs false
set_option linter.unusedVariables false
set_option linter.unusedSectionVars false
/- Worlds: cells, blocks, what is left as it was. -/
namespace Go.Proofs.YtjkaoejcdboaiaaGreat
open Go.RowKit
set_option linter.unusedVariables false
theorem cell_of {w : World} {g j : Nat} {cs : Array Value} {e : TypeId} {fr : Nat × Nat} (h : w.heap[g]? = some (.cells cs e fr)) : w.cell? ⟨g, j, none⟩ = cs[j]? := by
  simp [World.cell?, h]
theorem free_of {w : World} {g j : Nat} {cs : Array Value} {e : TypeId} (h : w.heap[g]? = some (.cells cs e (0, 0))) : w.frozen? ⟨g, j, none⟩ = false := by simp [World.frozen?, h]
theorem heap_lt {w : World} {g : Nat} {o : Obj} (h : w.heap[g]? = some o) : g < w.heap.size := by
  rcases Nat.lt_or_ge g w.heap.size with hlt | hge
  · exact hlt
  · rw [Array.getElem?_eq_none hge] at h; cases h
theorem cell_lt {w : World} {p : Addr} {v : Value} (h : w.cell? p = some v) : p.block < w.heap.size := by
  rcases Nat.lt_or_ge p.block w.heap.size with hlt | hge
  · exact hlt
  · have : w.heap[p.block]? = none := Array.getElem?_eq_none hge
    unfold World.cell? at h
    simp [this] at h
theorem heap_new (w : World) (o : Obj) : (w.alloc o).heap[w.heap.size]? = some o := by
  show (w.heap.push o)[w.heap.size]? = _
  simp
theorem heap_old {w : World} {g : Nat} {ob : Obj} (o : Obj) (h : w.heap[g]? = some ob) : (w.alloc o).heap[g]? = some ob := (Below.heap_alloc w o g (heap_lt h)).trans h
theorem set_blk {w : World} {g i : Nat} {v : Value} {cs : Array Value} {e : TypeId} {fr : Nat × Nat} (h : w.heap[g]? = some (.cells cs e fr)) : (w.setCell ⟨g, i, none⟩ v).heap[g]? = some (.cells (cs.setIfInBounds i v) e fr) := by
  obtain ⟨hlt, he⟩ := Array.getElem?_eq_some_iff.1 h
  simp only [World.setCell, Option.isSome, Bool.false_eq_true, if_false]
  rw [Array.getElem?_eq_getElem (by rw [Array.size_modify]; exact hlt), Array.getElem_modify_self, he]
theorem set_other {w : World} {g i b : Nat} {v : Value} (h : b ≠ g) : (w.setCell ⟨g, i, none⟩ v).heap[b]? = w.heap[b]? := by
  simp only [World.setCell]
  rw [Array.getElem?_modify, if_neg (Ne.symm h)]
theorem set_size (w : World) (a : Addr) (v : Value) : (w.setCell a v).heap.size = w.heap.size := by simp [World.setCell]
/-- A cell is given the value that it has. -/
theorem set_same {w : World} {g i : Nat} {v : Value} {cs : Array Value} {e : TypeId} {fr : Nat × Nat} (h : w.heap[g]? = some (.cells cs e fr)) (hv : cs[i]? = some v) : (w.setCell ⟨g, i, none⟩ v).heap[g]? = some (.cells cs e fr) := by
  rw [set_blk h]
  have : cs.setIfInBounds i v = cs := by
    apply Array.ext_getElem?
    intro j
    rw [Array.getElem?_setIfInBounds]
    split
    · rename_i hij
      subst hij
      split
      · exact hv.symm
      · rename_i hlt
        rw [Array.getElem?_eq_none (by omega)] at hv; cases hv
    · rfl
  rw [this]
/-- What stood below S is as it was, and the world's other parts too. -/
structure Low (S : Nat) (w w' : World) : Prop where
  os : w'.os = w.os
  out : w'.output = w.output
  size : w.heap.size ≤ w'.heap.size
  block : ∀ g, g < S → w'.heap[g]? = w.heap[g]?
section
variable {S S' : Nat} {w w' w'' : World}
theorem Low.refl (S : Nat) (w : World) : Low S w w := ⟨rfl, rfl, Nat.le_refl _, fun _ _ => rfl⟩
theorem Low.trans (h : Low S w w') (h' : Low S w' w'') : Low S w w'' := ⟨h'.os.trans h.os, h'.out.trans h.out, Nat.le_trans h.size h'.size, fun g hg => (h'.block g hg).trans (h.block g hg)⟩
theorem Low.mono (h : Low S w w') (hS : S' ≤ S) : Low S' w w' := ⟨h.os, h.out, h.size, fun g hg => h.block g (by omega)⟩
theorem Low.alloc (h : Low S w w') (hS : S ≤ w'.heap.size) (o : Obj) : Low S w (w'.alloc o) := h.trans ⟨rfl, rfl, by simp, fun g hg => Below.heap_alloc _ _ _ (by omega)⟩
theorem Low.setCell (h : Low S w w') {g i : Nat} (hg : S ≤ g) (v : Value) : Low S w (w'.setCell ⟨g, i, none⟩ v) := h.trans ⟨rfl, rfl, by rw [set_size]; exact Nat.le_refl _, fun b hb => set_other (by omega)⟩
theorem Low.drew (h : Low S w w') : Low S w w'.drew := ⟨h.os, h.out, h.size, h.block⟩
theorem Low.drewN (h : Low S w w') (n : Nat) : Low S w (w'.drewN n) := ⟨h.os, h.out, h.size, h.block⟩
theorem Low.of_below (h : Below S w w') : Low S w w' := ⟨h.os, h.output, h.size, h.block⟩
theorem Low.obj (h : Low S w w') {g : Nat} {o : Obj} (hg : g < S) (ho : w.heap[g]? = some o) : w'.heap[g]? = some o := (h.block g hg).trans ho
theorem Low.some (h : Low w.heap.size w w') {g : Nat} {o : Obj} (ho : w.heap[g]? = some o) : w'.heap[g]? = some o := h.obj (heap_lt ho) ho
end
/-- A fact that new blocks, and stores into blocks from S on, leave as it is. -/
structure Inv (S : Nat) (I : World → Prop) : Prop where
  size : ∀ w, I w → S ≤ w.heap.size
  alloc : ∀ w o, I w → I (w.alloc o)
  set : ∀ w g i v, S ≤ g → I w → I (w.setCell ⟨g, i, none⟩ v)
  drew : ∀ w, I w → I w.drew
theorem Inv.more {S S' : Nat} {I : World → Prop} (h : Inv S I) (hS : S ≤ S') : Inv S' (fun w => I w ∧ S' ≤ w.heap.size) :=
  ⟨fun w hw => hw.2, fun w o hw => ⟨h.alloc w o hw.1, by simp; omega⟩, fun w g i v hg hw => ⟨h.set w g i v (by omega) hw.1, by rw [set_size]; exact hw.2⟩, fun w hw => ⟨h.drew w hw.1, hw.2⟩⟩
/-- What is said of blocks below S. -/
theorem Inv.low (S : Nat) (w0 : World) (hS : S ≤ w0.heap.size) : Inv S (fun w => Low S w0 w) :=
  ⟨fun w hw => Nat.le_trans hS hw.size, fun w o hw => hw.alloc (Nat.le_trans hS hw.size) o, fun w g i v hg hw => hw.setCell hg v, fun w hw => hw.drew⟩
end Go.Proofs.YtjkaoejcdboaiaaGreat
/- guard runs its closure, and turns a panic with a failure into its result: the deferred closure. -/
namespace Go.Proofs.YtjkaoejcdboaiaaGreat
open Go.RowKit
theorem catch_idle (p : Addr) (w : World) :
    CallsD Tryz.prog 50 #[.pointer (some p)] .returning w fun e u' w' => e = .returned (.tuple #[]) ∧ u' = .returning ∧ w' = w := by
  refine callsD_of_wpS Tryz.func50 rfl fun c₀ cs hu => ?_
  apply wpS_seq
  apply wpS_region
  simp [wpOpsS, go_sem, recoverD, hu, Tryz.ntmps50, Exit.thenS]
  apply wpS_seq
  apply wpS_seq
  apply wpS_region
  simp [wpOpsS, go_sem, Exit.thenS]
  refine wpS_cond (t := true) (by simp [Act.eval, Array.replicate]) ?_
  simp only [if_true]
  refine wpS_of_wp (wp_ret ?_)
  cases c₀
  simp_all [bodyPostS, results, Tryz.results50, Exit.thenS]
set_option maxRecDepth 100000 in
set_option maxHeartbeats 1000000 in
theorem catch_failure (g : Nat) (ka ba na : Int) (older : List PanicEntry) (w : World) (x y z : Value) (h0 : w.heap[g]? = some (.cells #[x, y, z] 115)) :
    CallsD Tryz.prog 50 #[.pointer (some ⟨g, 0, none⟩)] (.panicking ({ v := .iface 115 (.agg #[.int .i64 ka, .int .i64 ba, .int .u16 na]), recovered := false } :: older)) w fun e u' w' =>
      e = .returned (.tuple #[]) ∧ u' = .panicking ({ v := .iface 115 (.agg #[.int .i64 ka, .int .i64 ba, .int .u16 na]), recovered := true } :: older) ∧
      w' = (((((((w.alloc (.cells #[.int .i64 0, .int .i64 0, .int .u16 0] 115)).setCell ⟨w.heap.size, 0, none⟩ (.int .i64 ka)).setCell ⟨w.heap.size, 1, none⟩ (.int .i64 ba)).setCell ⟨w.heap.size, 2, none⟩ (.int .u16 na)).setCell ⟨g, 0, none⟩ (.int .i64 ka)).setCell ⟨g, 1, none⟩ (.int .i64 ba)).setCell ⟨g, 2, none⟩ (.int .u16 na)) := by
  have hg : g < w.heap.size := heap_lt h0
  obtain ⟨S, hS⟩ : ∃ S, w.heap.size = S := ⟨_, rfl⟩
  obtain ⟨w1, q1⟩ : ∃ u, w.alloc (.cells #[.int .i64 0, .int .i64 0, .int .u16 0] 115) = u := ⟨_, rfl⟩
  obtain ⟨w2, q2⟩ : ∃ u, w1.setCell ⟨S, 0, none⟩ (.int .i64 ka) = u := ⟨_, rfl⟩
  obtain ⟨w3, q3⟩ : ∃ u, w2.setCell ⟨S, 1, none⟩ (.int .i64 ba) = u := ⟨_, rfl⟩
  obtain ⟨w4, q4⟩ : ∃ u, w3.setCell ⟨S, 2, none⟩ (.int .u16 na) = u := ⟨_, rfl⟩
  obtain ⟨w5, q5⟩ : ∃ u, w4.setCell ⟨g, 0, none⟩ (.int .i64 ka) = u := ⟨_, rfl⟩
  obtain ⟨w6, q6⟩ : ∃ u, w5.setCell ⟨g, 1, none⟩ (.int .i64 ba) = u := ⟨_, rfl⟩
  obtain ⟨w7, q7⟩ : ∃ u, w6.setCell ⟨g, 2, none⟩ (.int .u16 na) = u := ⟨_, rfl⟩
  have hgS : g ≠ S := by omega
  have a1 : w1.heap[S]? = some (.cells #[.int .i64 0, .int .i64 0, .int .u16 0] 115) := by rw [← q1, ← hS]; exact heap_new w _
  have b1 : w1.heap[g]? = some (.cells #[x, y, z] 115) := by rw [← q1]; exact heap_old _ h0
  have a2 : w2.heap[S]? = some (.cells #[.int .i64 ka, .int .i64 0, .int .u16 0] 115) := by rw [← q2]; exact set_blk a1
  have b2 : w2.heap[g]? = some (.cells #[x, y, z] 115) := by rw [← q2]; exact (set_other hgS).trans b1
  have a3 : w3.heap[S]? = some (.cells #[.int .i64 ka, .int .i64 ba, .int .u16 0] 115) := by rw [← q3]; exact set_blk a2
  have b3 : w3.heap[g]? = some (.cells #[x, y, z] 115) := by rw [← q3]; exact (set_other hgS).trans b2
  have a4 : w4.heap[S]? = some (.cells #[.int .i64 ka, .int .i64 ba, .int .u16 na] 115) := by rw [← q4]; exact set_blk a3
  have b4 : w4.heap[g]? = some (.cells #[x, y, z] 115) := by rw [← q4]; exact (set_other hgS).trans b3
  have b5 : w5.heap[g]? = some (.cells #[.int .i64 ka, y, z] 115) := by rw [← q5]; exact set_blk b4
  have b6 : w6.heap[g]? = some (.cells #[.int .i64 ka, .int .i64 ba, z] 115) := by rw [← q6]; exact set_blk b5
  have c1 : w1.cell? ⟨S, 0, none⟩ = some (.int .i64 0) := cell_of a1
  have d1 : w1.frozen? ⟨S, 0, none⟩ = false := free_of a1
  have c2 : w2.cell? ⟨S, 1, none⟩ = some (.int .i64 0) := cell_of a2
  have d2 : w2.frozen? ⟨S, 1, none⟩ = false := free_of a2
  have c3 : w3.cell? ⟨S, 2, none⟩ = some (.int .u16 0) := cell_of a3
  have d3 : w3.frozen? ⟨S, 2, none⟩ = false := free_of a3
  have c4 : w4.cell? ⟨g, 0, none⟩ = some x := cell_of b4
  have d4 : w4.frozen? ⟨g, 0, none⟩ = false := free_of b4
  have c5 : w5.cell? ⟨g, 1, none⟩ = some y := cell_of b5
  have d5 : w5.frozen? ⟨g, 1, none⟩ = false := free_of b5
  have c6 : w6.cell? ⟨g, 2, none⟩ = some z := cell_of b6
  have d6 : w6.frozen? ⟨g, 2, none⟩ = false := free_of b6
  have l0 : w4.cell? ⟨S, 0, none⟩ = some (.int .i64 ka) := cell_of a4
  have l1 : w4.cell? ⟨S, 1, none⟩ = some (.int .i64 ba) := cell_of a4
  have l2 : w4.cell? ⟨S, 2, none⟩ = some (.int .u16 na) := cell_of a4
  rw [hS, q1, q2, q3, q4, q5, q6, q7]
  clear a1 a2 a3 a4 b1 b2 b3 b4 b5 b6 h0
  have hta : ∀ (v : Value) (u : World), (Instr.typeAssert (.iface 115 v) 20 115 true).run Tryz.prog u = .ok (.tuple #[v, .bool true]) u := fun v u => by kernel_rfl
  refine callsD_of_wpS Tryz.func50 rfl fun c₀ cs hu => ?_
  apply wpS_seq
  apply wpS_region
  simp [wpOpsS, go_sem, recoverD, hu, Tryz.ntmps50, Exit.thenS]
  apply wpS_seq
  apply wpS_seq
  apply wpS_region
  simp [wpOpsS, go_sem, Exit.thenS]
  refine wpS_cond (t := false) (by simp [Act.eval, Array.replicate]) ?_
  simp only [if_false, Bool.false_eq_true]
  refine wpS_of_wp (wp_skip ?_)
  simp only [Exit.thenS]
  apply wpS_seq
  apply wpS_region
  simp [wpOpsS, go_sem, Exit.thenS, hta, hS, q1, c1, c2, c3, d1, d2, d3, q2, q3, q4]
  apply wpS_seq
  apply wpS_seq
  apply wpS_region
  simp [wpOpsS, go_sem, Exit.thenS]
  refine wpS_cond (t := false) (by simp [Act.eval, Array.replicate]) ?_
  simp only [if_false, Bool.false_eq_true]
  refine wpS_of_wp (wp_skip ?_)
  simp only [Exit.thenS]
  apply wpS_region
  simp [wpOpsS, go_sem, Exit.thenS, l0, l1, l2, c4, c5, c6, d4, d5, d6, q5, q6, q7]
  cases c₀
  simp_all [bodyPostS, results, Tryz.results50]
end Go.Proofs.YtjkaoejcdboaiaaGreat
namespace Go.Proofs.YtjkaoejcdboaiaaGreat
open Go.RowKit
abbrev fz : Obj := .cells #[.int .i64 0, .int .i64 0, .int .u16 0] 115
abbrev fv (ka ba na : Int) : Value := .agg #[.int .i64 ka, .int .i64 ba, .int .u16 na]
def put3 (w : World) (g : Nat) (ka ba na : Int) : World := ((w.setCell ⟨g, 0, none⟩ (.int .i64 ka)).setCell ⟨g, 1, none⟩ (.int .i64 ba)).setCell ⟨g, 2, none⟩ (.int .u16 na)
set_option maxRecDepth 100000 in
set_option maxHeartbeats 1000000 in
theorem guard_run {g : FuncId} {first cap : Array Value} (hcf : ∀ (args : Array Value) (u : World), (callFunc g args).run Tryz.prog u = .ok (.enter g args) u) (w : World) (R : Ending → World → Prop)
    (h : Calls Tryz.prog g (first ++ cap) (w.alloc fz) (fun e u => ∃ x y z, u.heap[w.heap.size]? = some (.cells #[x, y, z] 115) ∧
      ((∃ v, e = .returned v ∧ R (.returned (fv 0 0 0)) (put3 u w.heap.size 0 0 0)) ∨
       (∃ ka ba na, e = .panicked [{ v := .iface 115 (fv ka ba na), recovered := false }] ∧ R (.returned (fv ka ba na)) (put3 (put3 (u.alloc fz) u.heap.size ka ba na) w.heap.size ka ba na))))) :
    Calls Tryz.prog 26 #[.func (.func g) first cap] w R := by
  have hmf : ∀ (fn : Fn) (first cap : Array Value) (w : World), (Instr.makeFunc fn first cap).run Tryz.prog w = .ok (.func fn first cap) w := fun _ _ _ _ => rfl
  obtain ⟨S, hS⟩ : ∃ S, w.heap.size = S := ⟨_, rfl⟩
  obtain ⟨w1, q1⟩ : ∃ u, w.alloc fz = u := ⟨_, rfl⟩
  rw [hS, q1] at h
  go_enter_defers Tryz.func26, Tryz.ntmps26
  go_wp2
  refine h.mono ?_
  rintro e u ⟨x, y, z, hh, (⟨v, rfl, hR⟩ | ⟨ka, ba, na, rfl, hR⟩)⟩
  · have c0 : u.cell? ⟨S, 0, none⟩ = some x := cell_of hh
    have c1 : u.cell? ⟨S, 1, none⟩ = some y := cell_of hh
    have c2 : u.cell? ⟨S, 2, none⟩ = some z := cell_of hh
    have d0 : u.frozen? ⟨S, 0, none⟩ = false := free_of hh
    have d1 : u.frozen? ⟨S, 1, none⟩ = false := free_of hh
    have d2 : u.frozen? ⟨S, 2, none⟩ = false := free_of hh
    have hl := heap_lt hh
    have h3 : (put3 u S 0 0 0).heap[S]? = some (.cells #[.int .i64 0, .int .i64 0, .int .u16 0] 115) := set_blk (set_blk (set_blk hh))
    have e0 : (put3 u S 0 0 0).cell? ⟨S, 0, none⟩ = some (.int .i64 0) := cell_of h3
    have e1 : (put3 u S 0 0 0).cell? ⟨S, 1, none⟩ = some (.int .i64 0) := cell_of h3
    have e2 : (put3 u S 0 0 0).cell? ⟨S, 2, none⟩ = some (.int .u16 0) := cell_of h3
    go_wp2
    refine leaves_cons (f := 50) (args := #[.pointer (some ⟨S, 0, none⟩)]) (by simp) (by simp [go_sem]) ?_
    refine (catch_idle ⟨S, 0, none⟩ _).mono ?_
    rintro e u' w'' ⟨rfl, rfl, rfl⟩
    simp only [settle]
    unfold Leaves
    refine ⟨fv 0 0 0, ?_, hR⟩
    change (results Tryz.f26 _).run Tryz.prog (put3 u S 0 0 0) = _
    simp [results, Tryz.results26, go_sem, e0, e1, e2]
    rfl
  · have hS' : S < u.heap.size := heap_lt hh
    have n1 : (put3 (u.alloc fz) u.heap.size ka ba na).heap[S]? = some (.cells #[x, y, z] 115) := (set_other (by omega)).trans ((set_other (by omega)).trans ((set_other (by omega)).trans (heap_old _ hh)))
    have h3 : (put3 (put3 (u.alloc fz) u.heap.size ka ba na) S ka ba na).heap[S]? = some (.cells #[.int .i64 ka, .int .i64 ba, .int .u16 na] 115) := set_blk (set_blk (set_blk n1))
    have e0 : (put3 (put3 (u.alloc fz) u.heap.size ka ba na) S ka ba na).cell? ⟨S, 0, none⟩ = some (.int .i64 ka) := cell_of h3
    have e1 : (put3 (put3 (u.alloc fz) u.heap.size ka ba na) S ka ba na).cell? ⟨S, 1, none⟩ = some (.int .i64 ba) := cell_of h3
    have e2 : (put3 (put3 (u.alloc fz) u.heap.size ka ba na) S ka ba na).cell? ⟨S, 2, none⟩ = some (.int .u16 na) := cell_of h3
    dsimp only
    unfold bodyPostD
    refine leaves_cons (f := 50) (args := #[.pointer (some ⟨S, 0, none⟩)]) (by simp) (by simp [go_sem]) ?_
    refine (catch_failure S ka ba na [] u x y z hh).mono ?_
    rintro e u' w'' ⟨rfl, rfl, hw⟩
    have hw : w'' = put3 (put3 (u.alloc fz) u.heap.size ka ba na) S ka ba na := hw
    rw [← hw] at e0 e1 e2 hR
    clear hw h3 n1
    simp only [settle, List.dropWhile]
    unfold Leaves
    refine ⟨fv ka ba na, ?_, hR⟩
    simp [results, Tryz.results26, go_sem, e0, e1, e2]
end Go.Proofs.YtjkaoejcdboaiaaGreat
