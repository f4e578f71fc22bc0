/- Some blocks alone have changed; the graph behind a store into its definitions, behind new operations. -/
import Derived.Test.YtnjdegjpmbdboaaGreatQB
namespace Go.Proofs.YtnjdegjpmbdboaaGreat
open Go.RowKit
set_option linter.unusedVariables false
structure Chs (B : List Nat) (w w' : World) : Prop where
  os : w'.os = w.os
  out : w'.output = w.output
  size : w.heap.size ≤ w'.heap.size
  block : ∀ g, g < w.heap.size → g ∉ B → w'.heap[g]? = w.heap[g]?
section
variable {B B' : List Nat} {w w' w'' : World}
theorem Chs.of_low (h : Low w.heap.size w w') : Chs B w w' := ⟨h.os, h.out, h.size, fun g hg _ => h.block g hg⟩
theorem Chs.refl (B : List Nat) (w : World) : Chs B w w := ⟨rfl, rfl, Nat.le_refl _, fun _ _ _ => rfl⟩
theorem Chs.trans (h : Chs B w w') (h' : Chs B w' w'') : Chs B w w'' := ⟨h'.os.trans h.os, h'.out.trans h.out, Nat.le_trans h.size h'.size, fun g hg hb => (h'.block g (Nat.lt_of_lt_of_le hg h.size) hb).trans (h.block g hg hb)⟩
theorem Chs.more (h : Chs B w w') (hB : ∀ b ∈ B, b ∈ B') : Chs B' w w' := ⟨h.os, h.out, h.size, fun g hg hb => h.block g hg fun hg' => hb (hB g hg')⟩
theorem Chs.of_ch {b : Nat} (h : Ch b w w') (hb : b ∈ B) : Chs B w w' := ⟨h.os, h.out, h.size, fun g hg hn => h.block g hg (by rintro rfl; exact hn hb)⟩
theorem Chs.setBlock (w : World) {d : Nat} (hd : d ∈ B) (o : Obj) : Chs B w (Go.ChangeMaps.setBlock w d o) := ⟨rfl, rfl, by simp [Go.ChangeMaps.setBlock], fun g _ hn => setBlock_other o (by rintro rfl; exact hn hd)⟩
theorem Chs.setCell (w : World) {d i : Nat} (hd : d ∈ B) (v : Value) : Chs B w (w.setCell ⟨d, i, none⟩ v) := ⟨rfl, rfl, by rw [set_size]; exact Nat.le_refl _, fun g _ hn => set_other (by rintro rfl; exact hn hd)⟩
theorem Chs.drew (h : Chs B w w') : Chs B w w'.drew := ⟨h.os, h.out, h.size, h.block⟩
theorem Chs.low {S : Nat} (h : Chs B w w') (hB : ∀ b ∈ B, S ≤ b) (hS : S ≤ w.heap.size) : Low S w w' := ⟨h.os, h.out, h.size, fun g hg => h.block g (by omega) fun hb => by have := hB g hb; omega⟩
theorem Chs.obj {g : Nat} {o : Obj} (h : Chs B w w') (ho : w.heap[g]? = some o) (hb : g ∉ B) : w'.heap[g]? = some o := (h.block g (heap_lt ho) hb).trans ho
theorem Empty.chs {g : Nat} (h : Empty w g) (hc : Chs B w w') (hb : g ∉ B) : Empty w' g := by
  obtain ⟨cl, hg⟩ := h
  exact ⟨cl, hc.obj hg hb⟩
theorem OpsAt.chs {A : Option Addr} {n c : Nat} {l : List Opn} (h : OpsAt w A n c l) (hc : Chs B w w') (hb : ∀ g cs, w.heap[g]? = some (.cells cs 33 (0, 0)) → g ∉ B) : OpsAt w' A n c l := ⟨h.1, fun j o hj => by
  obtain ⟨g, cs, e, hcc, hg, r⟩ := h.2 j o hj
  exact ⟨g, cs, e, hcc, hc.obj hg (hb g cs hg), r⟩⟩
end
/-- Six cells to an operation. -/
theorem flat6 {α : Type} {f : α → List Value} (hf : ∀ a, (f a).length = 6) : ∀ (l : List α) (j i : Nat) (a : α), l[j]? = some a → i < 6 → (l.flatMap f)[j * 6 + i]? = (f a)[i]?
  | [], j, i, a, h, _ => by simp at h
  | b :: l, 0, i, a, h, hi => by
    simp at h
    subst h
    rw [List.flatMap_cons, Nat.zero_mul, Nat.zero_add, List.getElem?_append_left (by rw [hf]; exact hi)]
  | b :: l, j + 1, i, a, h, hi => by
    rw [List.flatMap_cons, List.getElem?_append_right (by rw [hf]; omega), hf]
    have e : (j + 1) * 6 + i - 6 = j * 6 + i := by omega
    rw [e]
    exact flat6 hf l j i a (by simpa using h) hi
def rowOf (l : List Opn) : List Value := l.flatMap fun o => o.cells.toList
theorem rowOf_at {l : List Opn} {j : Nat} {o : Opn} (h : l[j]? = some o) (i : Nat) (hi : i < 6) : (rowOf l)[j * 6 + i]? = o.cells[i]? := by
  have := flat6 (f := fun o : Opn => o.cells.toList) (fun _ => rfl) l j i o h hi
  rw [show (rowOf l) = l.flatMap fun o => o.cells.toList from rfl, this]
  simp
theorem rowOf_length (l : List Opn) : (rowOf l).length = l.length * 6 := by
  induction l with
  | nil => rfl
  | cons o l ih => rw [rowOf, List.flatMap_cons, List.length_append, show (l.flatMap fun o => o.cells.toList) = rowOf l from rfl, ih, List.length_cons]; simp [Opn.cells]; omega
theorem rowOf_snoc (l : List Opn) (o : Opn) : rowOf (l ++ [o]) = rowOf l ++ o.cells.toList := by simp [rowOf]
/-- A row of the call's own that holds operations. -/
theorem OpsAt.of_own {w : World} {base n : Nat} {v : Value} {l : List Opn} (h : Own w base 33 6 v n (rowOf l)) : ∃ A c, v = .slice A n c ∧ OpsAt w A n c l := by
  have hlen : l.length = n := by have := h.len; rw [rowOf_length] at this; omega
  rcases h.form with ⟨rfl, rfl⟩ | ⟨g, c, cs, rfl, hb, hg, hc⟩
  · exact ⟨none, 0, rfl, hlen, fun j o hj => by
      have := (List.getElem?_eq_some_iff.1 hj).1
      omega⟩
  · refine ⟨_, c, rfl, hlen, fun j o hj => ⟨g, cs, rfl, hc, hg, ?_⟩⟩
    have key : ∀ i (hi : i < 6) v, o.cells[i]? = some v → cs[j * 6 + i]? = some v := fun i hi v hv => by
      rw [← cell_of hg]
      exact h.cell ((rowOf_at hj i hi).trans hv)
    exact ⟨key 0 (by omega) _ rfl, key 1 (by omega) _ rfl, key 2 (by omega) _ rfl, key 3 (by omega) _ rfl, key 4 (by omega) _ rfl, key 5 (by omega) _ rfl⟩
theorem ap27 : Ap Tryz.prog 27 33 6 64 := ⟨Tryz.underlying27, by
  obtain ⟨ti, hti, hz, hs, hb⟩ := info_of (show (Tryz.prog.info? 33).map (fun i => (i.zero, i.size, i.bytes)) = some (some (.agg #[.int .i64 0, .int .i64 0, .int .i64 0, .int .i64 0, .int .u16 0, .slice none 0 0]), 6, 64) by kernel_rfl)
  exact ⟨ti, _, hti, hz, hs, hb, rfl⟩, by decide, by decide⟩
section
variable {w w' : World} {gr bk al df nm ob cm om : Nat} {next : Int} {Pp : Option Addr} {pc : Nat} {A : Option Addr} {n c : Nat} {T : Option Addr} {tc : Nat} {l : List Opn}
/-- The definitions alone have changed. -/
theorem Gr.defs (h : Gr w gr bk al df nm ob cm om next Pp pc A n c T tc l) (hc : Chs [df] w w') (hd : DefOk w' df) : Gr w' gr bk al df nm ob cm om next Pp pc A n c T tc l := by
  obtain ⟨m, ⟨es, cl, hm, _⟩, _⟩ := h.df_
  have hno : ∀ {g : Nat} {cs : Array Value} {e : TypeId} {fr : Nat × Nat}, w.heap[g]? = some (.cells cs e fr) → g ∉ [df] := fun {g cs e fr} hg hgd => by
    simp only [List.mem_singleton] at hgd
    subst hgd
    rw [hm] at hg; cases hg
  obtain ⟨d1, d2, d3, d4, d5⟩ := h.dne
  have ne : ∀ {g : Nat}, df ≠ g → g ∉ [df] := fun hg hm => hg (List.mem_singleton.1 hm).symm
  exact ⟨hc.obj h.g (hno h.g), hc.obj h.b (hno h.b), h.al_.chs hc (ne d1), h.nm_.chs hc (ne d2), h.ob_.chs hc (ne d3), h.cm_.chs hc (ne d4), h.om_.chs hc (ne d5), h.ops.chs hc (fun g cs hg => hno hg), hd, h.ok, h.small, h.dne, h.inc⟩
/-- The block has other operations. -/
theorem Gr.setOps {A' : Option Addr} {n' c' : Nat} {l' : List Opn} (h : Gr w gr bk al df nm ob cm om next Pp pc A n c T tc l) (ho : OpsAt w A' n' c' l') (hok : ∀ o ∈ l', OkOp o) (hn : n' ≤ 12) (hinc : Inc l') : Gr (w.setCell ⟨bk, 1, none⟩ (.slice A' n' c')) gr bk al df nm ob cm om next Pp pc A' n' c' T tc l' := by
  obtain ⟨n1, n2, n3, n4, n5, n6⟩ := h.ne
  have hc : Ch bk w (w.setCell ⟨bk, 1, none⟩ (.slice A' n' c')) := Ch.set _ _
  refine ⟨hc.obj h.g n1, by rw [set_blk h.b]; rfl, h.al_.ch hc n2, h.nm_.ch hc n3, h.ob_.ch hc n4, h.cm_.ch hc n5, h.om_.ch hc n6, ?_, h.df_.ch hc h.neDf, hok, hn, h.dne, hinc⟩
  refine ho.chs (Chs.of_ch hc (List.mem_singleton.2 rfl)) fun g cs hg hm => ?_
  simp only [List.mem_singleton] at hm
  subst hm
  rw [h.b] at hg; cases hg
end
end Go.Proofs.YtnjdegjpmbdboaaGreat
