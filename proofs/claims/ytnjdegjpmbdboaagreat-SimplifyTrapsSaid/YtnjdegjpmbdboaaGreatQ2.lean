/- Small functions: what they say of an operation's code. -/
import Derived.RowKit3
import Derived.Below
import Derived.WalkKit
import Derived.BigQuiet
import Derived.MapKept
import Derived.ChangeMaps5
import Derived.Test.YtnjdegjpmbdboaaGreatRows
import Derived.WalkSpells
import Derived.IntWalk
import Derived.Lib.Hide
import Derived.StillTailTactics
import Derived.Deep.RegionHeld3
import Derived.Deep.DeepCutAuto
import Derived.Deep.RegionLaw
/- Worlds: cells, blocks, what is left as it was. -/
namespace Go.Proofs.YtnjdegjpmbdboaaGreat
open Go.RowKit
set_option linter.unusedVariables false
theorem cell_of {w : World} {g j : Nat} {cs : Array Value} {e : TypeId} {fr : Nat × Nat} (h : w.heap[g]? = some (.cells cs e fr)) : w.cell? ⟨g, j, none⟩ = cs[j]? := by
  simp [World.cell?, h]
theorem free_of {w : World} {g j : Nat} {cs : Array Value} {e : TypeId} (h : w.heap[g]? = some (.cells cs e (0, 0))) : w.frozen? ⟨g, j, none⟩ = false := by simp [World.frozen?, h]
theorem heap_lt {w : World} {g : Nat} {o : Obj} (h : w.heap[g]? = some o) : g < w.heap.size := by
  rcases Nat.lt_or_ge g w.heap.size with hlt | hge
  · exact hlt
  · rw [Array.getElem?_eq_none hge] at h; cases h
theorem cell_lt {w : World} {p : Addr} {v : Value} (h : w.cell? p = some v) : p.block < w.heap.size := by
  rcases Nat.lt_or_ge p.block w.heap.size with hlt | hge
  · exact hlt
  · have : w.heap[p.block]? = none := Array.getElem?_eq_none hge
    unfold World.cell? at h
    simp [this] at h
theorem heap_new (w : World) (o : Obj) : (w.alloc o).heap[w.heap.size]? = some o := by
  show (w.heap.push o)[w.heap.size]? = _
  simp
theorem heap_old {w : World} {g : Nat} {ob : Obj} (o : Obj) (h : w.heap[g]? = some ob) : (w.alloc o).heap[g]? = some ob := (Below.heap_alloc w o g (heap_lt h)).trans h
theorem set_blk {w : World} {g i : Nat} {v : Value} {cs : Array Value} {e : TypeId} {fr : Nat × Nat} (h : w.heap[g]? = some (.cells cs e fr)) : (w.setCell ⟨g, i, none⟩ v).heap[g]? = some (.cells (cs.setIfInBounds i v) e fr) := by
  obtain ⟨hlt, he⟩ := Array.getElem?_eq_some_iff.1 h
  simp only [World.setCell, Option.isSome, Bool.false_eq_true, if_false]
  rw [Array.getElem?_eq_getElem (by rw [Array.size_modify]; exact hlt), Array.getElem_modify_self, he]
theorem set_other {w : World} {g i b : Nat} {v : Value} (h : b ≠ g) : (w.setCell ⟨g, i, none⟩ v).heap[b]? = w.heap[b]? := by
  simp only [World.setCell]
  rw [Array.getElem?_modify, if_neg (Ne.symm h)]
theorem set_size (w : World) (a : Addr) (v : Value) : (w.setCell a v).heap.size = w.heap.size := by simp [World.setCell]
/-- A cell is given the value that it has. -/
theorem set_same {w : World} {g i : Nat} {v : Value} {cs : Array Value} {e : TypeId} {fr : Nat × Nat} (h : w.heap[g]? = some (.cells cs e fr)) (hv : cs[i]? = some v) : (w.setCell ⟨g, i, none⟩ v).heap[g]? = some (.cells cs e fr) := by
  rw [set_blk h]
  have : cs.setIfInBounds i v = cs := by
    apply Array.ext_getElem?
    intro j
    rw [Array.getElem?_setIfInBounds]
    split
    · rename_i hij
      subst hij
      split
      · exact hv.symm
      · rename_i hlt
        rw [Array.getElem?_eq_none (by omega)] at hv; cases hv
    · rfl
  rw [this]
/-- What stood below S is as it was, and the world's other parts too. -/
structure Low (S : Nat) (w w' : World) : Prop where
  os : w'.os = w.os
  out : w'.output = w.output
  size : w.heap.size ≤ w'.heap.size
  block : ∀ g, g < S → w'.heap[g]? = w.heap[g]?
section
variable {S S' : Nat} {w w' w'' : World}
theorem Low.refl (S : Nat) (w : World) : Low S w w := ⟨rfl, rfl, Nat.le_refl _, fun _ _ => rfl⟩
theorem Low.trans (h : Low S w w') (h' : Low S w' w'') : Low S w w'' := ⟨h'.os.trans h.os, h'.out.trans h.out, Nat.le_trans h.size h'.size, fun g hg => (h'.block g hg).trans (h.block g hg)⟩
theorem Low.mono (h : Low S w w') (hS : S' ≤ S) : Low S' w w' := ⟨h.os, h.out, h.size, fun g hg => h.block g (by omega)⟩
theorem Low.alloc (h : Low S w w') (hS : S ≤ w'.heap.size) (o : Obj) : Low S w (w'.alloc o) := h.trans ⟨rfl, rfl, by simp, fun g hg => Below.heap_alloc _ _ _ (by omega)⟩
theorem Low.setCell (h : Low S w w') {g i : Nat} (hg : S ≤ g) (v : Value) : Low S w (w'.setCell ⟨g, i, none⟩ v) := h.trans ⟨rfl, rfl, by rw [set_size]; exact Nat.le_refl _, fun b hb => set_other (by omega)⟩
theorem Low.drew (h : Low S w w') : Low S w w'.drew := ⟨h.os, h.out, h.size, h.block⟩
theorem Low.drewN (h : Low S w w') (n : Nat) : Low S w (w'.drewN n) := ⟨h.os, h.out, h.size, h.block⟩
theorem Low.of_below (h : Below S w w') : Low S w w' := ⟨h.os, h.output, h.size, h.block⟩
theorem Low.obj (h : Low S w w') {g : Nat} {o : Obj} (hg : g < S) (ho : w.heap[g]? = some o) : w'.heap[g]? = some o := (h.block g hg).trans ho
theorem Low.some (h : Low w.heap.size w w') {g : Nat} {o : Obj} (ho : w.heap[g]? = some o) : w'.heap[g]? = some o := h.obj (heap_lt ho) ho
end
/-- A fact that new blocks, and stores into blocks from S on, leave as it is. -/
structure Inv (S : Nat) (I : World → Prop) : Prop where
  size : ∀ w, I w → S ≤ w.heap.size
  alloc : ∀ w o, I w → I (w.alloc o)
  set : ∀ w g i v, S ≤ g → I w → I (w.setCell ⟨g, i, none⟩ v)
  drew : ∀ w, I w → I w.drew
theorem Inv.more {S S' : Nat} {I : World → Prop} (h : Inv S I) (hS : S ≤ S') : Inv S' (fun w => I w ∧ S' ≤ w.heap.size) :=
  ⟨fun w hw => hw.2, fun w o hw => ⟨h.alloc w o hw.1, by simp; omega⟩, fun w g i v hg hw => ⟨h.set w g i v (by omega) hw.1, by rw [set_size]; exact hw.2⟩, fun w hw => ⟨h.drew w hw.1, hw.2⟩⟩
/-- What is said of blocks below S. -/
theorem Inv.low (S : Nat) (w0 : World) (hS : S ≤ w0.heap.size) : Inv S (fun w => Low S w0 w) :=
  ⟨fun w hw => Nat.le_trans hS hw.size, fun w o hw => hw.alloc (Nat.le_trans hS hw.size) o, fun w g i v hg hw => hw.setCell hg v, fun w hw => hw.drew⟩
end Go.Proofs.YtnjdegjpmbdboaaGreat
/- Maps with integer keys: what they hold, as a list; look-up and store. -/
namespace Go.Proofs.YtnjdegjpmbdboaaGreat
open Go.RowKit
set_option linter.unusedVariables false
/-- A map's entries, as keys and values. -/
def Ents (l : List (Int × Value)) (es : Array MapEntry) : Prop := es.toList.map (fun e => (e.key, e.val)) = l.map (fun p => (Value.int .i64 p.1, p.2))
def IMap (w : World) (g : Nat) (l : List (Int × Value)) : Prop := ∃ es clock, w.heap[g]? = some (.map es clock) ∧ Ents l es
def getI (l : List (Int × Value)) (k : Int) : Option Value := (l.find? fun p => p.1 == k).map (·.2)
def putI : List (Int × Value) → Int → Value → List (Int × Value)
  | [], k, v => [(k, v)]
  | p :: l, k, v => if p.1 == k then (k, v) :: l else p :: putI l k v
theorem putI_new : ∀ {l : List (Int × Value)} {k : Int} {v : Value}, l.any (fun p => p.1 == k) = false → putI l k v = l ++ [(k, v)]
  | [], k, v, _ => rfl
  | p :: l, k, v, h => by
    simp only [List.any_cons, Bool.or_eq_false_iff] at h
    simp [putI, h.1, putI_new h.2]
theorem putI_old : ∀ {l : List (Int × Value)} {k : Int} {v : Value} {j : Nat} {q : Int × Value}, l[j]? = some q → q.1 = k → (∀ m, m < j → ∀ q', l[m]? = some q' → q'.1 ≠ k) → putI l k v = l.set j (k, v)
  | [], k, v, j, q, h, _, _ => by simp at h
  | p :: l, k, v, 0, q, h, hq, _ => by
    simp at h
    subst h
    simp [putI, hq]
  | p :: l, k, v, j + 1, q, h, hq, hm => by
    have h0 := hm 0 (by omega) p rfl
    have : (p.1 == k) = false := by simpa using h0
    simp only [putI, this, List.set_cons_succ]
    rw [putI_old (by simpa using h) hq (fun m hm' q' hq' => hm (m + 1) (by omega) q' (by simpa using hq'))]
    rfl
theorem ents_nil : Ents [] #[] := rfl
theorem findNow_i {k : Int} : ∀ (l : List (Int × Value)) (es : List MapEntry) (i : Nat), es.map (fun e => (e.key, e.val)) = l.map (fun p => (Value.int .i64 p.1, p.2)) →
    ∃ r, Instr.findNow (.int .i64) (.int .i64 k) es i = some r ∧ r.map (·.2) = getI l k ∧ (r = none ↔ l.any (fun p => p.1 == k) = false) ∧ ∀ j v, r = some (j, v) → i ≤ j ∧ ∃ q, l[j - i]? = some q ∧ q.1 = k ∧ ∀ m, m < j - i → ∀ q', l[m]? = some q' → q'.1 ≠ k := by
  intro l
  induction l with
  | nil =>
    intro es i h
    cases es with
    | nil => exact ⟨none, rfl, rfl, by simp, by simp⟩
    | cons e es => simp at h
  | cons p l ih =>
    intro es i h
    cases es with
    | nil => simp at h
    | cons e es =>
      simp only [List.map_cons, List.cons.injEq, Prod.mk.injEq] at h
      obtain ⟨⟨h1, h2⟩, h3⟩ := h
      by_cases hk : p.1 = k
      · refine ⟨some (i, e.val), ?_, ?_, ?_, ?_⟩
        · simp [Instr.findNow, Instr.sameNow, h1, hk]
        · simp [getI, hk, h2]
        · simp [hk]
        · rintro j v hj
          cases hj
          exact ⟨Nat.le_refl _, p, by simp, hk, fun m hm => by omega⟩
      · have hk' : (p.1 == k) = false := by simpa using hk
        have hk2 : (k == p.1) = false := by simpa using fun h => hk h.symm
        obtain ⟨r, r1, r2, r3, r4⟩ := ih es (i + 1) h3
        refine ⟨r, ?_, ?_, ?_, ?_⟩
        · simp only [Instr.findNow, Instr.sameNow, h1, if_true, hk2]
          exact r1
        · rw [r2]; simp [getI, hk']
        · rw [r3]; simp [hk']
        · rintro j v hj
          obtain ⟨a, q, b, c, d⟩ := r4 j v hj
          have e1 : j - i = (j - (i + 1)) + 1 := by omega
          refine ⟨by omega, q, by rw [e1]; simpa using b, c, fun m hm q' hq' => ?_⟩
          cases m with
          | zero => simp at hq'; rw [← hq']; exact hk
          | succ m => exact d m (by omega) q' (by simpa using hq')
section
variable {P : Program} {w : World} {t kt et : TypeId} {g : Nat} {l : List (Int × Value)} {k : Int}
theorem checkKey_i (hk : P.underlying kt = some (.int .i64)) (b : Bool) (w : World) : (Instr.checkKey b 10000 kt (.int .i64 k)).run P w = .ok () w := by
  have e : ∀ n : Nat, (Instr.checkKey b (n + 1) kt (.int .i64 k)).run P w = .ok () w := fun n => by
    unfold Instr.checkKey
    simp only [Sem.run_bind, run_underlying hk, Result.andThen_ok]
    rfl
  exact e 9999
theorem findKey_i (hk : P.underlying kt = some (.int .i64)) {es : Array MapEntry} (he : Ents l es) : ∃ r, (Instr.findKey kt (.int .i64 k) es.toList).run P w = .ok r w ∧ r.map (·.2) = getI l k ∧ (r = none ↔ l.any (fun p => p.1 == k) = false) ∧ ∀ j v, r = some (j, v) → ∃ q, l[j]? = some q ∧ q.1 = k ∧ ∀ m, m < j → ∀ q', l[m]? = some q' → q'.1 ≠ k := by
  obtain ⟨r, r1, r2, r3, r4⟩ := findNow_i (k := k) l es.toList 0 he
  refine ⟨r, ?_, r2, r3, fun j v hj => ?_⟩
  · simp only [Instr.findKey, Sem.run_bind, run_underlying hk, Result.andThen_ok, r1]
    rfl
  · obtain ⟨_, q, b, c, d⟩ := r4 j v hj
    exact ⟨q, by simpa using b, c, fun m hm => d m (by omega)⟩
/-- A look-up. -/
theorem lookup_i (ht : P.underlying t = some (.map kt et)) (hk : P.underlying kt = some (.int .i64)) (h : IMap w g l) {z : Value} (hz : (zeroValue et).run P w = .ok z w) (ok : Bool) :
    (Instr.lookup t (.map (some g)) (.int .i64 k) ok).run P w = .ok (if ok then .tuple #[(getI l k).getD z, .bool (getI l k).isSome] else (getI l k).getD z) w := by
  obtain ⟨es, clock, hg, he⟩ := h
  obtain ⟨r, r1, r2, _, _⟩ := findKey_i (w := w) (k := k) hk he
  cases r with
  | none =>
    have e : getI l k = none := by rw [← r2]; rfl
    simp [Instr.lookup, run_underlying ht, MapKept.run_getObj_map hg, checkKey_i hk, r1, hz, e]
  | some p =>
    have e : getI l k = some p.2 := by rw [← r2]; rfl
    simp [Instr.lookup, run_underlying ht, MapKept.run_getObj_map hg, checkKey_i hk, r1, e]
/-- A store. -/
theorem update_i (ht : P.underlying t = some (.map kt et)) (hk : P.underlying kt = some (.int .i64)) (h : IMap w g l) (v : Value) :
    ∃ es c, (Instr.mapUpdate t (.map (some g)) (.int .i64 k) v).run P w = .ok () (Go.ChangeMaps.setBlock w g (.map es c)) ∧ Ents (putI l k v) es := by
  obtain ⟨es, clock, hg, he⟩ := h
  obtain ⟨r, r1, r2, r3, r4⟩ := findKey_i (w := w) (k := k) hk he
  cases r with
  | none =>
    refine ⟨es.push ⟨.int .i64 k, v, clock⟩, clock + 1, ?_, ?_⟩
    · simp [Instr.mapUpdate, run_underlying ht, MapKept.run_getObj_map hg, checkKey_i hk, r1, MapKept.run_setObj_map _ hg, Go.ChangeMaps.setBlock]
    · rw [putI_new (r3.1 rfl)]
      unfold Ents at *
      simp [he]
  | some p =>
    obtain ⟨j, v0⟩ := p
    obtain ⟨q, b, c, d⟩ := r4 j v0 rfl
    have hlen : es.toList.length = l.length := by have := congrArg List.length he; simpa using this
    have hjl : j < l.length := (List.getElem?_eq_some_iff.1 b).1
    have hsz : es.size = l.length := by rw [← hlen]; simp
    have hjs : j < es.size := by omega
    have hkey : es[j].key = .int .i64 k := by
      have h1 := congrArg (fun l => l[j]?) he
      simp [b, c, hjs] at h1
      exact h1.1
    refine ⟨es.modify j fun e => { e with key := .int .i64 k, val := v }, clock, ?_, ?_⟩
    · have hs : (Instr.keyThatStays es[j].key (.int .i64 k)).run P w = .ok (.int .i64 k) w := by
        rw [hkey]
        simp [Instr.keyThatStays, Instr.sameBits]
      simp [Instr.mapUpdate, run_underlying ht, MapKept.run_getObj_map hg, checkKey_i hk, r1, MapKept.run_setObj_map _ hg, Go.ChangeMaps.setBlock, hjs, hs]
    · rw [putI_old b c d]
      unfold Ents at *
      apply List.ext_getElem?
      intro m
      have h1 := congrArg (fun l => l[m]?) he
      simp only [List.getElem?_map, Array.getElem?_toList, Array.getElem?_modify, List.getElem?_set] at h1 ⊢
      by_cases hm : j = m
      · subst hm
        simp [hjs, hjl]
      · simp [hm, h1]
end
end Go.Proofs.YtnjdegjpmbdboaaGreat
namespace Go.Proofs.YtnjdegjpmbdboaaGreat
open Go.RowKit
set_option linter.unusedVariables false
/-- The codes of the operations that the statement makes. -/
def OkCode (c : Int) : Prop := c ∈ [3, 8, 18, 19, 20, 21, 22, 23, 24, 25, 26, 27]
def opA (c : Int) : Bool := [3, 8, 18, 19, 20, 21, 22, 23, 25].contains c
def opB (c : Int) : Bool := [8, 20, 21].contains c
def opRes (c : Int) : Bool := [3, 8, 18, 19, 22, 23, 24].contains c
def opN (c : Int) : Bool := [22, 23, 24, 25].contains c
set_option maxRecDepth 100000 in
set_option maxHeartbeats 4000000 in
theorem operands_any (w : World) (c : Int) (h : OkCode c) : Calls Tryz.prog 71 #[.int .i64 c] w (fun e w' => e = .returned (.tuple #[.bool (opA c), .bool (opB c)]) ∧ w' = w) := by
  simp only [OkCode, List.mem_cons, List.not_mem_nil, or_false] at h
  rcases h with rfl | rfl | rfl | rfl | rfl | rfl | rfl | rfl | rfl | rfl | rfl | rfl
  all_goals
    go_enter Tryz.func71, Tryz.ntmps71
    go_wp2
    first
      | exact bodyPost_ret (v := .tuple #[.bool true, .bool false]) (by simp [results, Tryz.results71, go_sem]; done) rfl ⟨rfl, rfl⟩
      | exact bodyPost_ret (v := .tuple #[.bool true, .bool true]) (by simp [results, Tryz.results71, go_sem]; done) rfl ⟨rfl, rfl⟩
      | exact bodyPost_ret (v := .tuple #[.bool false, .bool false]) (by simp [results, Tryz.results71, go_sem]; done) rfl ⟨rfl, rfl⟩
set_option maxRecDepth 100000 in
set_option maxHeartbeats 8000000 in
theorem fields_any (w : World) (c : Int) (h : OkCode c) : Calls Tryz.prog 143 #[.int .i64 c] w (fun e w' => e = .returned (.tuple #[.agg #[.bool (opRes c), .bool (opA c), .bool (opB c), .bool (opN c)], .bool true]) ∧ Below w.heap.size w w') := by
  simp only [OkCode, List.mem_cons, List.not_mem_nil, or_false] at h
  rcases h with rfl | rfl | rfl | rfl | rfl | rfl | rfl | rfl | rfl | rfl | rfl | rfl
  all_goals
    go_enter Tryz.func143, Tryz.ntmps143
    go_wp2
    first
      | exact bodyPost_ret (v := .tuple #[.agg #[.bool true, .bool true, .bool false, .bool false], .bool true]) (by simp [results, Tryz.results143, go_sem]; done) rfl ⟨rfl, (Below.refl _ _).alloc (Nat.le_refl _) _⟩
      | exact bodyPost_ret (v := .tuple #[.agg #[.bool true, .bool true, .bool true, .bool false], .bool true]) (by simp [results, Tryz.results143, go_sem]; done) rfl ⟨rfl, (Below.refl _ _).alloc (Nat.le_refl _) _⟩
      | exact bodyPost_ret (v := .tuple #[.agg #[.bool false, .bool true, .bool true, .bool false], .bool true]) (by simp [results, Tryz.results143, go_sem]; done) rfl ⟨rfl, (Below.refl _ _).alloc (Nat.le_refl _) _⟩
      | exact bodyPost_ret (v := .tuple #[.agg #[.bool true, .bool true, .bool false, .bool true], .bool true]) (by simp [results, Tryz.results143, go_sem]; done) rfl ⟨rfl, (Below.refl _ _).alloc (Nat.le_refl _) _⟩
      | exact bodyPost_ret (v := .tuple #[.agg #[.bool true, .bool false, .bool false, .bool true], .bool true]) (by simp [results, Tryz.results143, go_sem]; done) rfl ⟨rfl, (Below.refl _ _).alloc (Nat.le_refl _) _⟩
      | exact bodyPost_ret (v := .tuple #[.agg #[.bool false, .bool true, .bool false, .bool true], .bool true]) (by simp [results, Tryz.results143, go_sem]; done) rfl ⟨rfl, (Below.refl _ _).alloc (Nat.le_refl _) _⟩
      | exact bodyPost_ret (v := .tuple #[.agg #[.bool false, .bool false, .bool false, .bool false], .bool true]) (by simp [results, Tryz.results143, go_sem]; done) rfl ⟨rfl, (Below.refl _ _).alloc (Nat.le_refl _) _⟩
/-- A shape of an operation: which fields it has. -/
def shapeOf (c : Int) : Value := .agg #[.bool (opRes c), .bool (opA c), .bool (opB c), .bool (opN c), .bool (c == 26)]
end Go.Proofs.YtnjdegjpmbdboaaGreat
