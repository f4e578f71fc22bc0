/- Rows of the call's own: one more element is appended. -/
import Derived.Test.YtnbicnmniodjpaaGreatW0
import Derived.Laws.AppendOwn
set_option linter.unusedSimpArgs false
set_option linter.unusedVariables false
set_option linter.unusedSectionVars false
namespace Go.Proofs.YtnbicnmniodjpaaGreat
open Go.RowKit
set_option linter.unusedVariables false
structure Ap (P : Program) (t e size bytes : Nat) : Prop where
  ht : P.underlying t = some (.slice e)
  info : ∃ ti z, P.info? e = some ti ∧ ti.zero = some z ∧ ti.size = size ∧ ti.bytes = bytes ∧ z.cells.size = size
  pos : 0 < size
  low : bytes ≤ 1024
/-- A row of the call's own from base on: its elements' cells. -/
def Own (w : World) (base : Nat) (e size : Nat) (v : Value) (n : Nat) (xs : List Value) : Prop := w.ownsRow base e size v n xs
theorem Own.nil (w : World) (base e size : Nat) : Own w base e size (.slice none 0 0) 0 [] := ⟨by simp, .inl ⟨rfl, rfl⟩⟩
/-- What an append leaves. -/
structure App1 (w w' : World) (base e size : Nat) (v v' : Value) (n : Nat) (xs : List Value) (m : Nat) (news : List Value) : Prop where
  own : Own w' base e size v' (n + m) (xs ++ news)
  os : w'.os = w.os
  out : w'.output = w.output
  size : w.heap.size ≤ w'.heap.size
  block : ∀ k, k < w.heap.size → some k ≠ v.ownBlock → w'.heap[k]? = w.heap[k]?
section
variable {P : Program} {t e size bytes base : Nat} {w : World}
theorem append_one (hE : Ap P t e size bytes) {ty : TypeId} {v : Value} {n : Nat} {xs : List Value} (hown : Own w base e size v n xs) {g m c : Nat} {cs : Array Value} {e' : TypeId} {fr : Nat × Nat} (hg : w.heap[g]? = some (.cells cs e' fr)) (hcs : cs.size = m * size) (h1 : ∀ u ∈ cs, u.oneCell' = true) (hn : n + m ≤ 1048576) (hb : base ≤ w.heap.size) :
    ∃ v' w', (Builtin.append_ #[t, t] ty #[v, .slice (some ⟨g, 0, none⟩) m c]).run P w = .ok v' w' ∧ App1 w w' base e size v v' n xs m cs.toList := by
  obtain ⟨ti, z, hi, hz, hsize, hby, hzs⟩ := hE.info
  have hlow := hE.low
  have hbytes : (n + m) * bytes ≤ 140737488355328 := by
    have := Nat.mul_le_mul hn hlow
    omega
  obtain ⟨v', w', hr, h2, h3, _⟩ := run_append_own (P := P) w base t ty e ti z size bytes hE.ht hi hz hsize hby hzs hE.pos v n xs hown ⟨g, 0, none⟩ m c cs.toList (by simpa using hcs)
    (fun j u hj => by
      have hadd : (⟨g, 0, none⟩ : Addr).add j = ⟨g, j, none⟩ := by
        by_cases h0 : j = 0
        · subst h0; simp [Addr.add]
        · simp [Addr.add, h0]
      rw [hadd, cell_of hg]
      simpa using hj) (fun u hu => h1 u (by simpa using hu)) (by have : maxLen = 9223372036854775807 := rfl; omega) hbytes hb
  exact ⟨v', w', hr, h2, h3.os, h3.output, h3.size, h3.block⟩
theorem wp_app1 (hE : Ap P t e size bytes) {o : Oper} {a : Act} {K : Act → World → Prop} {Q : Exit → Act → World → Prop} (s x : Operand) (ho : o.op = .call { callee := .builtin .append, args := #[s, x], argTypes := #[t, t] })
    {v : Value} {n : Nat} {xs : List Value} (hs : a.eval s = v) (hown : Own w base e size v n xs) {g m c : Nat} {cs : Array Value} {e' : TypeId} {fr : Nat × Nat} (hx : a.eval x = .slice (some ⟨g, 0, none⟩) m c) (hg : w.heap[g]? = some (.cells cs e' fr)) (hcs : cs.size = m * size) (h1 : ∀ u ∈ cs, u.oneCell' = true) (hn : n + m ≤ 1048576) (hb : base ≤ w.heap.size)
    (h : ∀ v' w', App1 w w' base e size v v' n xs m cs.toList → K (a.put o.dst v') w') : o.wp P a w K Q := by
  obtain ⟨v', w', hrun, h2⟩ := append_one (ty := o.type) hE hown (c := c) hg hcs h1 hn hb
  unfold Oper.wp execOp
  simp only [ho, resolve, invoke, builtin, Sem.run_bind, Sem.run_pure, Result.andThen_ok, List.map_toArray, List.map_cons, List.map_nil, hs, hx, hrun]
  exact h v' w' h2
theorem wpList_app1 (hE : Ap P t e size bytes) {ops : Array Oper} {rest : List Oper} {o : Oper} {a : Act} {Q : Exit → Act → World → Prop} (hgd : o.guard = none) (s x : Operand) (ho : o.op = .call { callee := .builtin .append, args := #[s, x], argTypes := #[t, t] })
    {v : Value} {n : Nat} {xs : List Value} (hs : a.eval s = v) (hown : Own w base e size v n xs) {g m c : Nat} {cs : Array Value} {e' : TypeId} {fr : Nat × Nat} (hx : a.eval x = .slice (some ⟨g, 0, none⟩) m c) (hg : w.heap[g]? = some (.cells cs e' fr)) (hcs : cs.size = m * size) (h1 : ∀ u ∈ cs, u.oneCell' = true) (hn : n + m ≤ 1048576) (hb : base ≤ w.heap.size)
    (h : ∀ v' w', App1 w w' base e size v v' n xs m cs.toList → wpList P ops Q rest (a.put o.dst v') w') : wpList P ops Q (o :: rest) a w :=
  wpList_plain hgd fun _ hK => wp_app1 hE s x ho hs hown hx hg hcs h1 hn hb fun v' w' h2 => hK _ _ (h v' w' h2)
theorem step_app1 (hE : Ap P t e size bytes) {ops : Array Oper} {o : Oper} {a : Act} {K : Act → World → Prop} {Q : Exit → Act → World → Prop} {E : Prop} (hgd : o.guard = none) (s x : Operand) (ho : o.op = .call { callee := .builtin .append, args := #[s, x], argTypes := #[t, t] })
    {v : Value} {n : Nat} {xs : List Value} (hs : a.eval s = v) (hown : Own w base e size v n xs) {g m c : Nat} {cs : Array Value} {e' : TypeId} {fr : Nat × Nat} (hx : a.eval x = .slice (some ⟨g, 0, none⟩) m c) (hg : w.heap[g]? = some (.cells cs e' fr)) (hcs : cs.size = m * size) (h1 : ∀ u ∈ cs, u.oneCell' = true) (hn : n + m ≤ 1048576) (hb : base ≤ w.heap.size)
    (h : ∀ v' w', App1 w w' base e size v v' n xs m cs.toList → K (a.put o.dst v') w') : if Region.wanted o (yielded ops a.tmps) = true then Oper.wp P o a w K Q else E := by
  have hw : Region.wanted o (yielded ops a.tmps) = true := by simp [Region.wanted, hgd]
  rw [if_pos hw]
  exact wp_app1 hE s x ho hs hown hx hg hcs h1 hn hb h
end
section
variable {w w' w'' : World} {base e size n m : Nat} {v v' : Value} {xs news : List Value}
/-- A row's cell. -/
theorem Own.cell {g c : Nat} (h : Own w base e size (.slice (some ⟨g, 0, none⟩) n c) n xs) {j : Nat} {u : Value} (hj : xs[j]? = some u) : w.cell? ⟨g, j, none⟩ = some u := by
  obtain ⟨h0, ⟨h1, _⟩ | ⟨g', c', cur, h1, h2, h3, h4, h5, h6, h7⟩⟩ := h
  · cases h1
  · cases h1
    rw [cell_of h3]
    subst h7
    have h8 : j < (cur.toList.take (n * size)).length := (List.getElem?_eq_some_iff.1 hj).1
    simp only [List.length_take] at h8
    rw [List.getElem?_take, if_pos (by omega)] at hj
    simpa using hj
theorem Own.form (h : Own w base e size v n xs) : (v = .slice none 0 0 ∧ n = 0) ∨ ∃ g c cs, v = .slice (some ⟨g, 0, none⟩) n c ∧ base ≤ g ∧ w.heap[g]? = some (.cells cs e (0, 0)) ∧ n ≤ c := by
  obtain ⟨h0, h1 | ⟨g', c', cur, h1, h2, h3, h4, h5, h6, h7⟩⟩ := h
  · exact .inl h1
  · exact .inr ⟨g', c', cur, h1, h2, h3, h4⟩
/-- A row whose block is left alone is kept. -/
theorem Own.kept (h : Own w base e size v n xs) (hk : ∀ g, v.ownBlock = some g → w'.heap[g]? = w.heap[g]?) : Own w' base e size v n xs := by
  obtain ⟨h0, h1 | ⟨g', c', cur, h1, h2, h3, h4, h5, h6, h7⟩⟩ := h
  · exact ⟨h0, .inl h1⟩
  · exact ⟨h0, .inr ⟨g', c', cur, h1, h2, by rw [hk g' (by rw [h1]; rfl)]; exact h3, h4, h5, h6, h7⟩⟩
theorem Own.low (h : Own w base e size v n xs) (hl : Low w.heap.size w w') : Own w' base e size v n xs := h.kept fun g hg => by
  rcases h.form with ⟨h1, _⟩ | ⟨g', c, cs, h1, _, h3, _⟩
  · rw [h1] at hg; cases hg
  · rw [h1] at hg; cases hg
    exact hl.block _ (heap_lt h3)
theorem Own.len (h : Own w base e size v n xs) : xs.length = n * size := h.1
theorem App1.row {k : Nat} (h : App1 w w' base e size v v' n xs m news) (hk : n + m = k) (h0 : 0 < k) : ∃ g c cs, v' = .slice (some ⟨g, 0, none⟩) k c ∧ base ≤ g ∧ w'.heap[g]? = some (.cells cs e (0, 0)) ∧ k ≤ c ∧ Own w' base e size (.slice (some ⟨g, 0, none⟩) k c) k (xs ++ news) := by
  subst hk
  rcases h.own.form with ⟨_, h1⟩ | ⟨g, c, cs, rfl, h2, h3, h4⟩
  · omega
  · exact ⟨g, c, cs, rfl, h2, h3, h4, h.own⟩
theorem App1.low (h : App1 w w' base e size v v' n xs m news) (hown : Own w base e size v n xs) {S : Nat} (hS : S ≤ base) (hSw : S ≤ w.heap.size) : Low S w w' := ⟨h.os, h.out, h.size, fun g hg => h.block g (by omega) fun he => by
  rcases hown.form with ⟨h1, _⟩ | ⟨g', c, cs, h1, h2, h3, _⟩
  · rw [h1] at he; cases he
  · rw [h1] at he; simp [Value.ownBlock] at he; omega⟩
end
theorem wpList_known {P : Program} {ops : Array Oper} {rest : List Oper} {o : Oper} {a : Act} {w w' : World} {Q : Exit → Act → World → Prop} {t : TypeId} {v : Value} (hgd : o.guard = none) (s x : Operand) (ho : o.op = .call { callee := .builtin .append, args := #[s, x], argTypes := #[t, t] })
    {vs vx : Value} (hs : a.eval s = vs) (hx : a.eval x = vx) (hrun : (Builtin.append_ #[t, t] o.type #[vs, vx]).run P w = .ok v w') (h : wpList P ops Q rest (a.put o.dst v) w') : wpList P ops Q (o :: rest) a w :=
  wpList_plain hgd fun _ hK => by
    unfold Oper.wp execOp
    simp only [ho, resolve, invoke, builtin, Sem.run_bind, Sem.run_pure, Result.andThen_ok, List.map_toArray, List.map_cons, List.map_nil, hs, hx, hrun]
    exact hK _ _ h
end Go.Proofs.YtnbicnmniodjpaaGreat
