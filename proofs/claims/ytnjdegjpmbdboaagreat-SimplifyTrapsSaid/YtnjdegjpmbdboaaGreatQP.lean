/- sweep: what is struck. -/
import Derived.Test.YtnjdegjpmbdboaaGreatQM
import Derived.Laws.IdiomCopy
import Derived.Lib.SliceRun
/- Rows of operations: cloned; those that are struck are deleted. -/
namespace Go.Proofs.YtnjdegjpmbdboaaGreat
open Go.RowKit
set_option linter.unusedVariables false
section
variable {P : Program} {t e size bytes base : Nat} {w : World}
theorem wpList_appN (hE : Ap P t e size bytes) {ops : Array Oper} {rest : List Oper} {o : Oper} {a : Act} {Q : Exit → Act → World → Prop} (hgd : o.guard = none) (s x : Operand) (ho : o.op = .call { callee := .builtin .append, args := #[s, x], argTypes := #[t, t] })
    {v : Value} {n : Nat} {xs : List Value} (hs : a.eval s = v) (hown : Own w base e size v n xs) {ad : Addr} {m c : Nat} {news : List Value} (hx : a.eval x = .slice (some ad) m c) (hl : news.length = m * size) (hnews : ∀ j u, news[j]? = some u → w.cell? (ad.add j) = some u) (h1 : ∀ u ∈ news, u.oneCell' = true) (hn : n + m ≤ 1048576) (hb : base ≤ w.heap.size)
    (h : ∀ v' w', App1 w w' base e size v v' n xs m news → wpList P ops Q rest (a.put o.dst v') w') : wpList P ops Q (o :: rest) a w := by
  refine wpList_plain hgd fun K hK => ?_
  obtain ⟨ti, z, hi, hz, hsize, hby, hzs⟩ := hE.info
  have hlow := hE.low
  have hbytes : (n + m) * bytes ≤ 140737488355328 := by
    have := Nat.mul_le_mul hn hlow
    omega
  obtain ⟨v', w', hrun, h2, h3, _⟩ := run_append_own (P := P) w base t o.type e ti z size bytes hE.ht hi hz hsize hby hzs hE.pos v n xs hown ad m c news hl hnews h1 (by have : maxLen = 9223372036854775807 := rfl; omega) hbytes hb
  unfold Oper.wp execOp
  simp only [ho, resolve, invoke, builtin, Sem.run_bind, Sem.run_pure, Result.andThen_ok, List.map_toArray, List.map_cons, List.map_nil, hs, hx, hrun]
  exact hK _ _ (h v' w' ⟨h2, h3.os, h3.output, h3.size, h3.block⟩)
end
theorem OpsAt.row {w : World} {g n c : Nat} {l : List Opn} (h : OpsAt w (some ⟨g, 0, none⟩) n c l) : ∀ j u, (rowOf l)[j]? = some u → w.cell? ((⟨g, 0, none⟩ : Addr).add j) = some u := fun j u hj => by
  have hadd : (⟨g, 0, none⟩ : Addr).add j = ⟨g, j, none⟩ := by
    by_cases h0 : j = 0
    · subst h0; simp [Addr.add]
    · simp [Addr.add, h0]
  rw [hadd]
  have hlt : j < (rowOf l).length := (List.getElem?_eq_some_iff.1 hj).1
  rw [rowOf_length] at hlt
  have hi : j % 6 < 6 := Nat.mod_lt _ (by decide)
  have hq : j / 6 < l.length := by omega
  have hje : j / 6 * 6 + j % 6 = j := by omega
  have ho : l[j / 6]? = some l[j / 6] := List.getElem?_eq_getElem hq
  have hr := rowOf_at ho (j % 6) hi
  rw [hje, hj] at hr
  obtain ⟨g', cs, e, hnc, hg, k0, k1, k2, k3, k4, k5⟩ := h.2 _ _ ho
  cases e
  rw [cell_of hg]
  generalize l[j / 6] = o at *
  have h6 : j % 6 = 0 ∨ j % 6 = 1 ∨ j % 6 = 2 ∨ j % 6 = 3 ∨ j % 6 = 4 ∨ j % 6 = 5 := by omega
  rcases h6 with h6 | h6 | h6 | h6 | h6 | h6 <;> rw [h6] at hr hje <;> rw [← hje, hr] <;> assumption
theorem OpsAt.own_of {w : World} {base n : Nat} {v : Value} {l : List Opn} (h : Own w base 33 6 v n (rowOf l)) : ∃ A c, v = .slice A n c ∧ OpsAt w A n c l ∧ ∀ a, A = some a → base ≤ a.block := by
  obtain ⟨A, c, hv, ho⟩ := OpsAt.of_own h
  refine ⟨A, c, hv, ho, fun a ha => ?_⟩
  rcases h.form with ⟨hv2, _⟩ | ⟨g, c', cs, hv2, hb, _⟩
  · rw [hv] at hv2; cases hv2; cases ha
  · rw [hv] at hv2; cases hv2; cases ha; exact hb
theorem rowOf_one (l : List Opn) : ∀ u ∈ rowOf l, u.oneCell' = true := fun u hu => by
  unfold rowOf at hu
  obtain ⟨o, _, hu⟩ := List.mem_flatMap.1 hu
  simp [Opn.cells] at hu
  rcases hu with rfl | rfl | rfl | rfl | rfl <;> rfl
set_option maxRecDepth 100000 in
set_option maxHeartbeats 4000000 in
theorem clone_any (w : World) (A : Option Addr) (n c : Nat) (l : List Opn) (h : OpsAt w A n c l) (hn : n ≤ 12) :
    Calls Tryz.prog 27 #[.slice A n c] w (fun e w' => Low w.heap.size w w' ∧ ∃ A' c', e = .returned (.slice A' n c') ∧ OpsAt w' A' n c' l ∧ ∀ a, A' = some a → w.heap.size ≤ a.block) := by
  have hq : ∀ u, (binOp .eql 27 (.slice A n c) (.slice none 0 0)).run Tryz.prog u = .ok (.bool A.isNone) u := fun u => Go.Lib.run_eql_slice_nil u 27 33 A n c 0 0 Tryz.underlying27
  have H := Lib.hid h
  have hlen := h.1
  cases A with
  | none =>
    have hn0 : n = 0 := by
      cases l with
      | nil => exact hlen.symm
      | cons o l =>
        obtain ⟨g, cs, e, _⟩ := h.2 0 o rfl
        cases e
    subst hn0
    obtain rfl : l = [] := List.length_eq_zero_iff.1 hlen
    clear h
    go_enter Tryz.func27, Tryz.ntmps27
    go_wp2_with fail
    go_ret
    exact ⟨Low.refl _ _, none, 0, rfl, ⟨rfl, by simp⟩, by simp⟩
  | some a =>
    clear h
    have hmk : ∀ u : World, (Instr.buildSlice 27 0 #[]).run Tryz.prog u = .ok (.slice (some ⟨u.heap.size, 0, none⟩) 0 0) (u.alloc (.cells #[] 33)) := fun u => by kernel_rfl
    have h1 : Low w.heap.size w (w.alloc (.cells #[] 33)) := (Low.refl _ w).alloc (Nat.le_refl _) _
    have hown : Own (w.alloc (.cells #[] 33)) w.heap.size 33 6 (.slice (some ⟨w.heap.size, 0, none⟩) 0 0) 0 [] := ⟨rfl, .inr ⟨w.heap.size, 0, #[], rfl, Nat.le_refl _, heap_new w _, Nat.le_refl _, Nat.zero_le _, rfl, rfl⟩⟩
    have hrow : ∀ j u, (rowOf l)[j]? = some u → (w.alloc (.cells #[] 33)).cell? (a.add j) = some u := fun j u hj => by
      cases l with
      | nil => simp [rowOf] at hj
      | cons o l' =>
        obtain ⟨g, cs, e, _⟩ := H.out.2 0 o rfl
        cases e
        exact (H.out.low h1).row j u hj
    have HO := Lib.hid hown; have HR := Lib.hid hrow; have H1 := Lib.hid h1
    clear hown hrow h1
    go_enter Tryz.func27, Tryz.ntmps27
    go_upto_region 3 with fail
    go_wp2_with (first
      | (at_builtin; refine wpList_appN (w := w.alloc (.cells #[] 33)) (P := Tryz.prog) (base := w.heap.size) (n := 0) (m := n) (xs := []) (news := rowOf l) ap27 rfl (.tmp 5) (.tmp 6) rfl rfl HO.out rfl (by rw [rowOf_length, hlen]) HR.out (rowOf_one l) (by omega) (by simp) ?_; intro v9 w9 happ0; have hl9 := Lib.hid (H1.out.trans (happ0.low HO.out (Nat.le_refl _) (by simp))); have hown9 : Own w9 w.heap.size 33 6 v9 n (rowOf l) := (by have := happ0.own; simpa using this); obtain ⟨A', c', rfl, h9, hb9⟩ := OpsAt.own_of hown9; clear happ0 hown9))
    go_ret
    exact ⟨hl9.out, A', c', rfl, h9, hb9⟩
end Go.Proofs.YtnjdegjpmbdboaaGreat
/- Rows of operations: those that are struck are deleted. -/
namespace Go.Proofs.YtnjdegjpmbdboaaGreat
open Go.RowKit
set_option linter.unusedVariables false
/-- What the function that strikes does. -/
def Strikes (S : Nat) (w : World) (caps : Array Value) (l : List Opn) : Prop := ∀ wx, Low S w wx → ∀ o ∈ l, Calls Tryz.prog 57 (#[.agg #[.int .i64 o.code, .int .i64 o.res, .int .i64 0, .int .i64 0, .int .u16 o.n, .slice none 0 0]] ++ caps) wx (fun e w' => e = .returned (.bool (o.code == 3)) ∧ Low wx.heap.size wx w')
theorem enters57 : ∀ (args : Array Value) (w : World), (callFunc 57 args).run Tryz.prog w = .ok (.enter 57 args) w := enters_body Tryz.func57 (by kernel_rfl) rfl
def kept (l : List Opn) : List Opn := l.filter fun o => o.code != 3
theorem kept_snoc (l : List Opn) (o : Opn) : kept (l ++ [o]) = if o.code = 3 then kept l else kept l ++ [o] := by
  unfold kept
  rw [List.filter_append]
  by_cases h : o.code = 3 <;> simp [h]
theorem take_snoc {l : List Opn} {q : Nat} {o : Opn} (h : l[q]? = some o) : l.take (q + 1) = l.take q ++ [o] := by
  rw [List.take_add_one, h]; rfl
set_option maxRecDepth 100000 in
set_option maxHeartbeats 8000000 in
theorem index_any (S : Nat) (w : World) (A : Option Addr) (n c : Nat) (l : List Opn) (caps : Array Value) (h : OpsAt w A n c l) (hn : n ≤ 12) (hf : Strikes S w caps l) (hS : S ≤ w.heap.size) :
    Calls Tryz.prog 89 #[.slice A n c, .func (.func 57) #[] caps] w (fun e w' => Low w.heap.size w w' ∧ ((e = .returned (.int .i64 (-1)) ∧ kept l = l) ∨ ∃ (i : Nat) (o : Opn), e = .returned (.int .i64 i) ∧ l[i]? = some o ∧ o.code = 3 ∧ kept (l.take i) = l.take i)) := by
  have H := Lib.hid h; have HF := Lib.hid hf
  have hlen := Lib.hid h.1
  clear h hf
  go_enter Tryz.func89, Tryz.ntmps89
  go_wp2_with fail
  go_loopw [8] (fun i wr => ∃ q : Nat, i = .int .i64 q ∧ q ≤ n ∧ Low w.heap.size w wr ∧ kept (l.take q) = l.take q) (fun i _ => n - (intOf i).toNat)
  case atStart => exact ⟨0, rfl, by omega, Low.refl _ _, rfl⟩
  case round =>
    obtain ⟨wv, rfl⟩ : ∃ u, u = wr := ⟨_, rfl⟩
    obtain ⟨q, rfl, hq, hL, hk⟩ := hrel
    have gv := H.out.low hL
    have HL := Lib.hid hL; have HK := Lib.hid hk
    clear hL hk
    by_cases hlt : q < n
    · have hlt' : (q : Int) < (n : Int) := by omega
      have hq0 : (0 : Int) ≤ (q : Int) := by omega
      have hqn : (q : Int) ≤ 12 := by omega
      obtain ⟨o, ho⟩ : ∃ o, l[q]? = some o := ⟨_, List.getElem?_eq_getElem (by have := hlen.out; omega)⟩
      obtain ⟨g, cs, rfl, hnc, hg, k0, k1, k2, k3, k4, k5⟩ := gv.2 q o ho
      have c0 : wv.cell? ⟨g, q * 6, none⟩ = some (.int .i64 o.code) := (cell_of hg).trans k0
      have c1 : wv.cell? ⟨g, q * 6 + 1, none⟩ = some (.int .i64 o.res) := (cell_of hg).trans k1
      have c2 : wv.cell? ⟨g, q * 6 + 2, none⟩ = some (.int .i64 0) := (cell_of hg).trans k2
      have c3 : wv.cell? ⟨g, q * 6 + 3, none⟩ = some (.int .i64 0) := (cell_of hg).trans k3
      have c4 : wv.cell? ⟨g, q * 6 + 4, none⟩ = some (.int .u16 o.n) := (cell_of hg).trans k4
      have c5 : wv.cell? ⟨g, q * 6 + 5, none⟩ = some (.slice none 0 0) := (cell_of hg).trans k5
      have hP := HF.out wv (HL.out.mono hS) o (List.mem_of_getElem? ho)
      have HO := Lib.hid ho
      obtain ⟨p, hp⟩ : ∃ p, (o.code == 3) = p := ⟨_, rfl⟩
      rw [hp] at hP
      have HP := Lib.hid hp
      clear gv hg k0 k1 k2 k3 k4 k5 hp ho
      cases p
      · go_wp2_with (first
          | (with_reducible refine hP.mono ?_; rintro e w6 ⟨rfl, l6⟩))
        have hc3 : ¬ o.code = 3 := by simpa using HP.out
        refine ⟨⟨q + 1, rfl, hlt, HL.out.trans (l6.mono HL.out.size), ?_⟩, by show n - ((q : Int) + 1).toNat < n - ((q : Int)).toNat; omega⟩
        rw [take_snoc HO.out, kept_snoc, if_neg hc3, HK.out]
      · go_wp2_with (first
          | (with_reducible refine hP.mono ?_; rintro e w6 ⟨rfl, l6⟩))
        go_ret
        have hc3 : o.code = 3 := by simpa using HP.out
        exact ⟨HL.out.trans (l6.mono HL.out.size), .inr ⟨q, o, rfl, HO.out, hc3, HK.out⟩⟩
    · have hlt' : ¬ (q : Int) < (n : Int) := by omega
      go_wp2_with fail
      go_ret
      exact ⟨HL.out, .inl ⟨rfl, by have := HK.out; rw [List.take_of_length_le (by have := hlen.out; omega)] at this; exact this⟩⟩
theorem set_many (g : Nat) : ∀ (vs : List Value) (o : Nat) (w : World) (cs : Array Value) (e : TypeId) (fr : Nat × Nat), w.heap[g]? = some (.cells cs e fr) →
    ∃ cs', (w.setCells g o vs).heap[g]? = some (.cells cs' e fr) ∧ (∀ k, k < o → cs'[k]? = cs[k]?) ∧ (∀ b, b ≠ g → (w.setCells g o vs).heap[b]? = w.heap[b]?) ∧ (w.setCells g o vs).heap.size = w.heap.size ∧ (w.setCells g o vs).os = w.os ∧ (w.setCells g o vs).output = w.output
  | [], o, w, cs, e, fr, h => ⟨cs, h, fun _ _ => rfl, fun _ _ => rfl, rfl, rfl, rfl⟩
  | v :: vs, o, w, cs, e, fr, h => by
    obtain ⟨cs', h1, h2, h3, h4, h5, h6⟩ := set_many g vs (o + 1) _ _ e fr (set_blk (i := o) (v := v) h)
    refine ⟨cs', h1, fun k hk => ?_, fun b hb => (h3 b hb).trans (set_other hb), h4.trans (set_size _ _ _), h5, h6⟩
    rw [h2 k (by omega), Array.getElem?_setIfInBounds_ne (by omega)]
theorem clear_run {w : World} {g o n c : Nat} {cs : Array Value} (h : w.heap[g]? = some (.cells cs 33 (0, 0))) (hn : 0 < n) (hs : o + n * 6 ≤ cs.size) :
    ∃ vs, ∀ ty, (Builtin.clear_ #[27] ty #[.slice (some ⟨g, o, none⟩) n c]).run Tryz.prog w = .ok (.tuple #[]) (w.setCells g o vs) := by
  have hz : ∀ w, (zeroValue 33).run Tryz.prog w = .ok (.agg #[.int .i64 0, .int .i64 0, .int .i64 0, .int .i64 0, .int .u16 0, .slice none 0 0]) w := fun w => by kernel_rfl
  refine ⟨(Builtin.zeroCells (Value.agg #[.int .i64 0, .int .i64 0, .int .i64 0, .int .i64 0, .int .u16 0, .slice none 0 0]).cells n).toList, fun ty => ?_⟩
  have hlen : (Builtin.zeroCells (Value.agg #[.int .i64 0, .int .i64 0, .int .i64 0, .int .i64 0, .int .u16 0, .slice none 0 0]).cells n).toList.length = n * 6 := by
    rw [Array.length_toList, size_zeroCells]; rfl
  have hst := run_storeCells_cells (P := Tryz.prog) g o (Builtin.zeroCells (Value.agg #[.int .i64 0, .int .i64 0, .int .i64 0, .int .i64 0, .int .u16 0, .slice none 0 0]).cells n).toList 0 w
    (fun j hj => by rw [hlen] at hj; rw [cell_of h, Array.getElem?_eq_getElem (by omega)]; rfl) (fun j hj => free_of h) (fun v hv => by
      simp only [Builtin.zeroCells, Array.toList_map, List.mem_map, Value.cells] at hv
      obtain ⟨i, _, rfl⟩ := hv
      have : i % 6 < 6 := Nat.mod_lt _ (by decide)
      have h6 : i % 6 = 0 ∨ i % 6 = 1 ∨ i % 6 = 2 ∨ i % 6 = 3 ∨ i % 6 = 4 ∨ i % 6 = 5 := by omega
      rcases h6 with h6 | h6 | h6 | h6 | h6 | h6 <;> simp [h6, Value.oneCell'])
  simp only [Nat.add_zero] at hst
  obtain ⟨m, rfl⟩ : ∃ m, n = m + 1 := ⟨n - 1, by omega⟩
  simp only [Builtin.clear_, Sem.run_bind, List.getElem?_toArray, List.getElem?_cons_zero, run_underlying Tryz.underlying27, Result.andThen_ok, hz, hst]
  rfl
/-- An operation is laid over another one. -/
theorem OpsAt.put {w w' : World} {g n c i : Nat} {l : List Opn} {o : Opn} (h : OpsAt w (some ⟨g, 0, none⟩) n c l) (hi : i < n) (hn : n ≤ c) {cs : Array Value} (hg : w.heap[g]? = some (.cells cs 33 (0, 0)))
    (hw : w' = (((((w.setCell ⟨g, i * 6, none⟩ (.int .i64 o.code)).setCell ⟨g, i * 6 + 1, none⟩ (.int .i64 o.res)).setCell ⟨g, i * 6 + 2, none⟩ (.int .i64 0)).setCell ⟨g, i * 6 + 3, none⟩ (.int .i64 0)).setCell ⟨g, i * 6 + 4, none⟩ (.int .u16 o.n)).setCell ⟨g, i * 6 + 5, none⟩ (.slice none 0 0)) : OpsAt w' (some ⟨g, 0, none⟩) n c (l.set i o) := by
  have hlen := h.1
  obtain ⟨o0, ho0⟩ : ∃ o0, l[i]? = some o0 := ⟨_, List.getElem?_eq_getElem (by omega)⟩
  obtain ⟨g', cs0, e, _, hg0, k0, k1, k2, k3, k4, k5⟩ := h.2 i o0 ho0
  cases e
  rw [hg] at hg0
  cases hg0
  have hw' := set_blk (i := i * 6 + 5) (v := .slice none 0 0) (set_blk (i := i * 6 + 4) (v := .int .u16 o.n) (set_blk (i := i * 6 + 3) (v := .int .i64 0) (set_blk (i := i * 6 + 2) (v := .int .i64 0) (set_blk (i := i * 6 + 1) (v := .int .i64 o.res) (set_blk (i := i * 6) (v := .int .i64 o.code) hg)))))
  rw [← hw] at hw'
  have hsz : i * 6 + 5 < cs.size := (Array.getElem?_eq_some_iff.1 k5).1
  refine ⟨by simpa using hlen, fun j o' hj => ⟨g, _, rfl, hn, hw', ?_⟩⟩
  rw [List.getElem?_set] at hj
  by_cases hij : i = j
  · subst hij
    rw [if_pos rfl, if_pos (by omega)] at hj
    cases hj
    simp [Array.getElem?_setIfInBounds, Nat.lt_of_succ_lt, hsz]
    omega
  · rw [if_neg hij] at hj
    obtain ⟨g', cs1, e, _, hg1, q0, q1, q2, q3, q4, q5⟩ := h.2 j o' hj
    cases e
    rw [hg] at hg1
    cases hg1
    refine ⟨?_, ?_, ?_, ?_, ?_, ?_⟩
    all_goals
      rw [Array.getElem?_setIfInBounds_ne (by omega), Array.getElem?_setIfInBounds_ne (by omega), Array.getElem?_setIfInBounds_ne (by omega), Array.getElem?_setIfInBounds_ne (by omega), Array.getElem?_setIfInBounds_ne (by omega), Array.getElem?_setIfInBounds_ne (by omega)]
      assumption
theorem tail_of {g n c a : Nat} (ha : a < n) (hn : n ≤ c) : ∀ u, (Instr.slice 27 (.slice (some ⟨g, 0, none⟩) n c) (some (.int .i64 (a : Int))) none none).run Tryz.prog u = .ok (.slice (some ⟨g, a * 6, none⟩) (n - a) (c - a)) u := fun u => by
  have hu := Tryz.underlying27
  have h33 : ∀ u, (sizeOf 33).run Tryz.prog u = .ok 6 u := fun u => by kernel_rfl
  have h2 : a ≤ n := by omega
  have h3 : c ≠ a := by omega
  by_cases h0 : a = 0
  · subst h0
    simp [Instr.slice, go_sem, run_underlying hu, h33, Addr.add]
  · have h4 : ¬ a * 6 = 0 := by omega
    have h5 : ¬ c - a = 0 := by omega
    have h6 : a ≤ c := by omega
    simp [Instr.slice, go_sem, run_underlying hu, h33, Addr.add, h2]
    rw [if_neg h3, if_neg h4]
theorem head_of {g n c a : Nat} (ha : a < n) (hn : n ≤ c) : ∀ u, (Instr.slice 27 (.slice (some ⟨g, 0, none⟩) n c) none (some (.int .i64 (a : Int))) none).run Tryz.prog u = .ok (.slice (some ⟨g, 0, none⟩) a c) u := fun u => by
  have hu := Tryz.underlying27
  have h33 : ∀ u, (sizeOf 33).run Tryz.prog u = .ok 6 u := fun u => by kernel_rfl
  have h3 : a ≤ c := by omega
  simp [Instr.slice, go_sem, run_underlying hu, h33, Addr.add, h3]
/-- The row behind the first b operations: a of them are kept. -/
def DelAt (S : Nat) (w : World) (g n c : Nat) (l : List Opn) (a b : Nat) (wx : World) : Prop := Low S w wx ∧ a < b ∧ b ≤ n ∧ ∃ L, OpsAt wx (some ⟨g, 0, none⟩) n c L ∧ L.take a = kept (l.take b) ∧ L.drop b = l.drop b
theorem DelAt.low {S : Nat} {w wx wy : World} {g n c a b : Nat} {l : List Opn} (h : DelAt S w g n c l a b wx) (hl : Low wx.heap.size wx wy) (hS : S ≤ w.heap.size) : DelAt S w g n c l a b wy := by
  obtain ⟨h1, h2, h3, L, h4, h5⟩ := h
  exact ⟨h1.trans (hl.mono (Nat.le_trans hS h1.size)), h2, h3, L, h4.low hl, h5⟩
theorem low_six {S : Nat} {w : World} {g k : Nat} {v0 v1 v2 v3 v4 v5 : Value} (hg : S ≤ g) : Low S w ((((((w.setCell ⟨g, k, none⟩ v0).setCell ⟨g, k + 1, none⟩ v1).setCell ⟨g, k + 2, none⟩ v2).setCell ⟨g, k + 3, none⟩ v3).setCell ⟨g, k + 4, none⟩ v4).setCell ⟨g, k + 5, none⟩ v5) :=
  ((((((Low.refl S w).setCell hg _).setCell hg _).setCell hg _).setCell hg _).setCell hg _).setCell hg _
set_option maxRecDepth 100000 in
set_option maxHeartbeats 8000000 in
theorem delete_any (S : Nat) (w : World) (A : Option Addr) (n c : Nat) (l : List Opn) (caps : Array Value) (h : OpsAt w A n c l) (hn : n ≤ 12) (hf : Strikes S w caps l) (hS : S ≤ w.heap.size) (hA : ∀ a, A = some a → S ≤ a.block) :
    Calls Tryz.prog 56 #[.slice A n c, .func (.func 57) #[] caps] w (fun e w' => Low S w w' ∧ ∃ n', e = .returned (.slice A n' c) ∧ OpsAt w' A n' c (kept l)) := by
  have hix := index_any S w A n c l caps h hn hf hS
  have H := Lib.hid h; have HF := Lib.hid hf
  have hlen := Lib.hid h.1
  clear h hf
  go_enter Tryz.func56, Tryz.ntmps56
  go_upto_region 2 with (first
    | (go_at_call 89; with_reducible refine hix.mono ?_; rintro e w1 ⟨l1, h1⟩; rcases h1 with ⟨rfl, hk⟩ | ⟨i, o, rfl, ho, hc3, hk⟩))
  · have L1 := Lib.hid l1; have HK := Lib.hid hk
    clear l1 hk
    go_wp2_with fail
    go_ret
    exact ⟨L1.out.mono hS, n, rfl, by rw [HK.out]; exact H.out.low L1.out⟩
  · have hi : i < l.length := (List.getElem?_eq_some_iff.1 ho).1
    have hin : i < n := by have := hlen.out; omega
    obtain ⟨g, cs, rfl, hnc, hg, _⟩ := H.out.2 i o ho
    have hgS := hA _ rfl
    have h0 : DelAt S w g n c l i (i + 1) w1 := ⟨l1.mono hS, by omega, by omega, l, H.out.low l1, by rw [take_snoc ho, kept_snoc, if_pos hc3, hk], rfl⟩
    have H0 := Lib.hid h0
    have hi12 : i < 12 := by omega
    have hw1 : IntKind.i64.wrap ((i : Int) + 1) = (i : Int) + 1 := IntWalk.i64_in _ (by omega)
    have hne : ¬ (i : Int) = -1 := by omega
    clear hix l1 h0 hc3 hk hi hg
    go_wp2_with fail
    go_loopw [5, 6] (fun i j wr => ∃ a b : Nat, i = .int .i64 a ∧ j = .int .i64 b ∧ DelAt S w g n c l a b wr) (fun _ j _ => n - (intOf j).toNat)
    case atStart => exact ⟨i, i + 1, rfl, rfl, H0.out⟩
    case round =>
      obtain ⟨wv, rfl⟩ : ∃ u, u = wr := ⟨_, rfl⟩
      obtain ⟨a, b, rfl, rfl, hD⟩ := hrel
      have hab := hD.2.1
      have hbn := hD.2.2.1
      clear H0 hw1 hne
      by_cases hlt : b < n
      · have hlt' : (b : Int) < (n : Int) := by omega
        have hq0 : (0 : Int) ≤ (b : Int) := by omega
        have hqn : (b : Int) ≤ 12 := by omega
        have hwb : IntKind.i64.wrap ((b : Int) + 1) = (b : Int) + 1 := IntWalk.i64_in _ (by omega)
        have hwa : IntKind.i64.wrap ((a : Int) + 1) = (a : Int) + 1 := IntWalk.i64_in _ (by omega)
        have ha0 : (0 : Int) ≤ (a : Int) := by omega
        have han : (a : Int) < (n : Int) := by omega
        have hDD := hD
        obtain ⟨hlow, _, _, L, hL, ht, hd⟩ := hDD
        obtain ⟨o, ho⟩ : ∃ o, l[b]? = some o := ⟨_, List.getElem?_eq_getElem (by have := hlen.out; omega)⟩
        have hoL : L[b]? = some o := by
          have h1 : (L.drop b)[0]? = (l.drop b)[0]? := by rw [hd]
          simpa [ho] using h1
        obtain ⟨g', cs, e, _, hg, k0, k1, k2, k3, k4, k5⟩ := hL.2 b o hoL
        cases e
        have c0 : wv.cell? ⟨g, b * 6, none⟩ = some (.int .i64 o.code) := (cell_of hg).trans k0
        have c1 : wv.cell? ⟨g, b * 6 + 1, none⟩ = some (.int .i64 o.res) := (cell_of hg).trans k1
        have c2 : wv.cell? ⟨g, b * 6 + 2, none⟩ = some (.int .i64 0) := (cell_of hg).trans k2
        have c3 : wv.cell? ⟨g, b * 6 + 3, none⟩ = some (.int .i64 0) := (cell_of hg).trans k3
        have c4 : wv.cell? ⟨g, b * 6 + 4, none⟩ = some (.int .u16 o.n) := (cell_of hg).trans k4
        have c5 : wv.cell? ⟨g, b * 6 + 5, none⟩ = some (.slice none 0 0) := (cell_of hg).trans k5
        have l9 : Low wv.heap.size wv (wv.alloc (.cells #[.int .i64 o.code, .int .i64 o.res, .int .i64 0, .int .i64 0, .int .u16 o.n, .slice none 0 0] 33)) := (Low.refl _ _).alloc (Nat.le_refl _) _
        have a9 := heap_new wv (.cells #[.int .i64 o.code, .int .i64 o.res, .int .i64 0, .int .i64 0, .int .u16 o.n, .slice none 0 0] 33)
        have D9 := hD.low l9 hS
        have O := Lib.hid ho
        clear hlow hL ht hd hg k0 k1 k2 k3 k4 k5 hoL ho hD
        go_upto_region 8 with fail
        clear c0 c1 c2 c3 c4 c5 l9
        generalize wv.heap.size = t7 at a9 ⊢
        generalize wv.alloc (.cells #[.int .i64 o.code, .int .i64 o.res, .int .i64 0, .int .i64 0, .int .u16 o.n, .slice none 0 0] 33) = wa at a9 D9 ⊢
        have x0 : wa.cell? ⟨t7, 0, none⟩ = some (.int .i64 o.code) := cell_of a9
        have x1 : wa.cell? ⟨t7, 1, none⟩ = some (.int .i64 o.res) := cell_of a9
        have x2 : wa.cell? ⟨t7, 2, none⟩ = some (.int .i64 0) := cell_of a9
        have x3 : wa.cell? ⟨t7, 3, none⟩ = some (.int .i64 0) := cell_of a9
        have x4 : wa.cell? ⟨t7, 4, none⟩ = some (.int .u16 o.n) := cell_of a9
        have x5 : wa.cell? ⟨t7, 5, none⟩ = some (.slice none 0 0) := cell_of a9
        have hP := HF.out wa D9.1 o (List.mem_of_getElem? O.out)
        have DD := Lib.hid D9
        have A9 := Lib.hid a9
        clear D9 a9
        by_cases h3 : o.code = 3
        · have hp : (o.code == 3) = true := by simp [h3]
          rw [hp] at hP
          have H3 := Lib.hid h3
          clear h3 hp
          go_wp2_with (first
            | (with_reducible refine hP.mono ?_; rintro e w6 ⟨rfl, l6⟩))
          obtain ⟨q1, q2, q3, L, q4, q5, q6⟩ := DD.out.low l6 hS
          refine ⟨⟨a, b + 1, rfl, by simp, q1, by omega, hlt, L, q4, ?_, ?_⟩, by show n - ((b : Int) + 1).toNat < n - ((b : Int)).toNat; omega⟩
          · rw [take_snoc O.out, kept_snoc, if_pos H3.out, q5]
          · rw [← List.drop_drop, ← List.drop_drop, q6]
        · have hp : (o.code == 3) = false := by simp [h3]
          rw [hp] at hP
          have H3 := Lib.hid h3
          clear h3 hp
          go_upto_region 9 with (first
            | (with_reducible refine hP.mono ?_; rintro e w6 ⟨rfl, l6⟩))
          have a6 := l6.some A9.out
          obtain ⟨q1, q2, q3, L, q4, q5, q6⟩ := DD.out.low l6 hS
          obtain ⟨oa, hoa⟩ : ∃ oa, L[a]? = some oa := ⟨_, List.getElem?_eq_getElem (by have := q4.1; omega)⟩
          obtain ⟨g', cs, e, hnc6, hg, k0, k1, k2, k3, k4, k5⟩ := q4.2 a oa hoa
          cases e
          clear x0 x1 x2 x3 x4 x5 hP
          have x0 : w6.cell? ⟨t7, 0, none⟩ = some (.int .i64 o.code) := cell_of a6
          have x1 : w6.cell? ⟨t7, 1, none⟩ = some (.int .i64 o.res) := cell_of a6
          have x2 : w6.cell? ⟨t7, 2, none⟩ = some (.int .i64 0) := cell_of a6
          have x3 : w6.cell? ⟨t7, 3, none⟩ = some (.int .i64 0) := cell_of a6
          have x4 : w6.cell? ⟨t7, 4, none⟩ = some (.int .u16 o.n) := cell_of a6
          have x5 : w6.cell? ⟨t7, 5, none⟩ = some (.slice none 0 0) := cell_of a6
          have c0 : w6.cell? ⟨g, a * 6, none⟩ = some (.int .i64 oa.code) := (cell_of hg).trans k0
          have c1 : w6.cell? ⟨g, a * 6 + 1, none⟩ = some (.int .i64 oa.res) := (cell_of hg).trans k1
          have c2 : w6.cell? ⟨g, a * 6 + 2, none⟩ = some (.int .i64 0) := (cell_of hg).trans k2
          have c3 : w6.cell? ⟨g, a * 6 + 3, none⟩ = some (.int .i64 0) := (cell_of hg).trans k3
          have c4 : w6.cell? ⟨g, a * 6 + 4, none⟩ = some (.int .u16 oa.n) := (cell_of hg).trans k4
          have c5 : w6.cell? ⟨g, a * 6 + 5, none⟩ = some (.slice none 0 0) := (cell_of hg).trans k5
          have f0 : w6.frozen? ⟨g, a * 6, none⟩ = false := free_of hg
          have f1 : w6.frozen? ⟨g, a * 6 + 1, none⟩ = false := free_of hg
          have f2 : w6.frozen? ⟨g, a * 6 + 2, none⟩ = false := free_of hg
          have f3 : w6.frozen? ⟨g, a * 6 + 3, none⟩ = false := free_of hg
          have f4 : w6.frozen? ⟨g, a * 6 + 4, none⟩ = false := free_of hg
          have f5 : w6.frozen? ⟨g, a * 6 + 5, none⟩ = false := free_of hg
          have hfin : Hid (∀ wF, wF = (((((w6.setCell ⟨g, a * 6, none⟩ (.int .i64 o.code)).setCell ⟨g, a * 6 + 1, none⟩ (.int .i64 o.res)).setCell ⟨g, a * 6 + 2, none⟩ (.int .i64 0)).setCell ⟨g, a * 6 + 3, none⟩ (.int .i64 0)).setCell ⟨g, a * 6 + 4, none⟩ (.int .u16 o.n)).setCell ⟨g, a * 6 + 5, none⟩ (.slice none 0 0) → DelAt S w g n c l (a + 1) (b + 1) wF) := Lib.hid (by
            intro wF hF
            have hlenL := q4.1
            refine ⟨?_, by omega, hlt, L.set a o, q4.put (by omega) hnc6 hg hF, ?_, ?_⟩
            · rw [hF]; exact q1.trans (low_six hgS)
            · rw [take_snoc O.out, kept_snoc, if_neg H3.out, ← q5, List.take_add_one, List.take_set, List.getElem?_set, if_pos rfl, if_pos (by omega), List.set_eq_of_length_le (by rw [List.length_take]; omega)]
              rfl
            · rw [List.drop_set, if_pos (by omega), ← List.drop_drop, ← List.drop_drop, q6])
          clear a6 q1 q2 q3 q4 q5 q6 hoa hg k0 k1 k2 k3 k4 k5
          go_wp2_with fail
          exact ⟨⟨a + 1, b + 1, by simp, by simp, hfin.out _ rfl⟩, by show n - ((b : Int) + 1).toNat < n - ((b : Int)).toNat; omega⟩
      · obtain rfl : b = n := by omega
        have hlt' : ¬ (b : Int) < (b : Int) := by omega
        obtain ⟨q1, _, _, L, q4, q5, q6⟩ := hD
        have hlenL := q4.1
        obtain ⟨oa, hoa⟩ : ∃ oa, L[b - 1]? = some oa := ⟨_, List.getElem?_eq_getElem (by omega)⟩
        obtain ⟨g', cs, e, hnc6, hg, k0, k1, k2, k3, k4, k5⟩ := q4.2 (b - 1) oa hoa
        cases e
        have hsz : (b - 1) * 6 + 5 < cs.size := (Array.getElem?_eq_some_iff.1 k5).1
        have hsl := tail_of (g := g) hab hnc6
        have hsh := head_of (g := g) hab hnc6
        obtain ⟨vs, hcl⟩ := clear_run (o := a * 6) (n := b - a) (c := c - a) hg (by omega) (by omega)
        obtain ⟨cs', s1, s2, s3, s4, s5, s6⟩ := set_many g vs (a * 6) wv cs 33 (0, 0) hg
        have hfin : Hid (Low S w (wv.setCells g (a * 6) vs) ∧ OpsAt (wv.setCells g (a * 6) vs) (some ⟨g, 0, none⟩) a c (kept l)) := Lib.hid (by
          have hk : kept l = L.take a := by rw [q5, List.take_of_length_le (by have := hlen.out; omega)]
          refine ⟨q1.trans ⟨s5, s6, by rw [s4]; exact Nat.le_refl _, fun k hk => s3 k (by omega)⟩, by rw [hk, List.length_take]; omega, fun j o hj => ?_⟩
          rw [hk, List.getElem?_take] at hj
          split at hj
          · obtain ⟨g2, cs2, e, _, hg2, p0, p1, p2, p3, p4, p5⟩ := q4.2 j o hj
            cases e
            rw [hg] at hg2
            cases hg2
            exact ⟨g, cs', rfl, by omega, s1, (s2 _ (by omega)).trans p0, (s2 _ (by omega)).trans p1, (s2 _ (by omega)).trans p2, (s2 _ (by omega)).trans p3, (s2 _ (by omega)).trans p4, (s2 _ (by omega)).trans p5⟩
          · cases hj)
        clear q1 q4 q5 q6 hoa hg k0 k1 k2 k3 k4 k5 s1 s2 s3 s4 s5 s6 hsz
        go_wp2_with fail
        go_ret
        exact ⟨hfin.out.1, a, rfl, hfin.out.2⟩
end Go.Proofs.YtnjdegjpmbdboaaGreat
namespace Go.Proofs.YtnjdegjpmbdboaaGreat
open Go.RowKit
set_option linter.unusedVariables false
theorem enters54 : ∀ (args : Array Value) (w : World), (callFunc 54 args).run Tryz.prog w = .ok (.enter 54 args) w := enters_body Tryz.func54 (by kernel_rfl) rfl
set_option maxRecDepth 100000 in
set_option maxHeartbeats 4000000 in
theorem drop_any (w : World) (z4 nb : Nat) (m : List (Int × Value)) (r : Int) (h4 : w.cell? ⟨z4, 0, none⟩ = some (.map (some nb))) (hm : IMap w nb m) (h0 : ∀ p ∈ m, p.1 = 0) (hr : 0 < r) :
    Calls Tryz.prog 54 #[.int .i64 r, .pointer (some ⟨z4, 0, none⟩)] w (fun e w' => e = .returned (.bool true) ∧ w' = w) := by
  have hl : (Instr.lookup 94 (.map (some nb)) (.int .i64 r) false).run Tryz.prog w = .ok (.bool false) w := by
    have := need_get hm r
    rw [getI_none (fun p hp => by have := h0 p hp; omega)] at this
    exact this
  clear hm h0 hr
  go_enter Tryz.func54, Tryz.ntmps54
  go_wp2_with fail
  go_ret
  exact ⟨rfl, rfl⟩
set_option maxRecDepth 100000 in
set_option maxHeartbeats 8000000 in
theorem strike_any (w : World) (gr nm z1 z4 z5 nb : Nat) (m : List (Int × Value)) (o : Opn) (h1 : w.heap[z1]? = some (.cells #[.pointer (some ⟨gr, 0, none⟩)] 47 (0, 0))) (h5 : w.heap[z5]? = some (.cells #[.func (.func 54) #[] #[.pointer (some ⟨z4, 0, none⟩)]] 97 (0, 0)))
    (h4 : w.heap[z4]? = some (.cells #[.map (some nb)] 94 (0, 0))) (hm : IMap w nb m) (h0 : ∀ p ∈ m, p.1 = 0) (hg : w.cell? ⟨gr, 4, none⟩ = some (.map (some nm))) (he : Empty w nm) (ho : OkOp o) :
    Calls Tryz.prog 57 #[.agg #[.int .i64 o.code, .int .i64 o.res, .int .i64 0, .int .i64 0, .int .u16 o.n, .slice none 0 0], .pointer (some ⟨z1, 0, none⟩), .pointer (some ⟨z5, 0, none⟩)] w (fun e w' => e = .returned (.bool (o.code == 3)) ∧ Low w.heap.size w w') := by
  have hl : Low w.heap.size w (w.alloc (.cells #[.int .i64 o.code, .int .i64 o.res, .int .i64 0, .int .i64 0, .int .u16 o.n, .slice none 0 0] 33)) := (Low.refl _ w).alloc (Nat.le_refl _) _
  have hb := heap_new w (.cells #[.int .i64 o.code, .int .i64 o.res, .int .i64 0, .int .i64 0, .int .u16 o.n, .slice none 0 0] 33)
  have g1 := (World.cell?_alloc_lt w (.cells #[.int .i64 o.code, .int .i64 o.res, .int .i64 0, .int .i64 0, .int .u16 o.n, .slice none 0 0] 33) _ (cell_lt hg)).trans hg
  have hP := pure_any _ gr nm o g1 (he.low hl) ho.1
  have a1 := hl.some h1
  have a4 := hl.some h4
  have a5 := hl.some h5
  have am := hm.low hl
  have hres := ho.2.2.1
  have HR := Lib.hid (show o.code = 3 → 0 < o.res from fun h => hres (by rw [h]; rfl))
  clear g1 h1 h4 h5 hm hg he ho hres
  go_enter Tryz.func57, Tryz.ntmps57
  go_upto_region 1 with fail
  obtain ⟨S, hS⟩ : ∃ S, w.heap.size = S := ⟨_, rfl⟩
  rw [hS] at hb ⊢
  generalize w.alloc (.cells #[.int .i64 o.code, .int .i64 o.res, .int .i64 0, .int .i64 0, .int .u16 o.n, .slice none 0 0] 33) = w1 at hl hb hP a1 a4 a5 am ⊢
  have x0 : w1.cell? ⟨S, 0, none⟩ = some (.int .i64 o.code) := cell_of hb
  have x1 : w1.cell? ⟨S, 1, none⟩ = some (.int .i64 o.res) := cell_of hb
  have x2 : w1.cell? ⟨S, 2, none⟩ = some (.int .i64 0) := cell_of hb
  have x3 : w1.cell? ⟨S, 3, none⟩ = some (.int .i64 0) := cell_of hb
  have x4 : w1.cell? ⟨S, 4, none⟩ = some (.int .u16 o.n) := cell_of hb
  have x5 : w1.cell? ⟨S, 5, none⟩ = some (.slice none 0 0) := cell_of hb
  have y1 : w1.cell? ⟨z1, 0, none⟩ = some (.pointer (some ⟨gr, 0, none⟩)) := cell_of a1
  have HB := Lib.hid hb; have HL := Lib.hid hl; have A4 := Lib.hid a4; have A5 := Lib.hid a5; have AM := Lib.hid am
  clear hb hl a1 a4 a5 am hS
  by_cases h3 : o.code = 3
  · have hp : (o.code == 3) = true := by simp [h3]
    rw [hp] at hP
    have HPP := Lib.hid hp
    have hr := HR.out h3
    clear h3 hp
    go_wp2_with (first
      | (go_at_call 58; with_reducible refine hP.mono ?_; rintro e w6 ⟨rfl, l6⟩; have b6 := l6.some HB.out; have z5' : w6.cell? ⟨z5, 0, none⟩ = some (.func (.func 54) #[] #[.pointer (some ⟨z4, 0, none⟩)]) := cell_of (l6.some A5.out); have r6 : w6.cell? ⟨S, 1, none⟩ = some (.int .i64 o.res) := cell_of b6; have hd := drop_any w6 z4 nb m o.res (cell_of (l6.some A4.out)) (AM.out.low l6) h0 hr; have L6 := Lib.hid l6; clear l6 b6 hP x0 x1 x2 x3 x4 x5)
      | (go_at_call 54; with_reducible refine hd.mono ?_; rintro e w7 ⟨rfl, rfl⟩))
    go_ret
    exact ⟨by rw [HPP.out]; rfl, HL.out.trans (L6.out.mono HL.out.size)⟩
  · have hp : (o.code == 3) = false := by simp [h3]
    rw [hp] at hP
    have HPP := Lib.hid hp
    clear h3 hp
    go_wp2_with (first
      | (go_at_call 58; with_reducible refine hP.mono ?_; rintro e w6 ⟨rfl, l6⟩))
    go_ret
    exact ⟨by rw [HPP.out]; rfl, HL.out.trans (l6.mono HL.out.size)⟩
end Go.Proofs.YtnjdegjpmbdboaaGreat
