/- A graph of one block, without constants: what it is; its values are resolved. -/
import Derived.Test.YtnjdegjpmbdboaaGreatQ6
namespace Go.Proofs.YtnjdegjpmbdboaaGreat
open Go.RowKit
set_option linter.unusedVariables false
/-- A row of operations. -/
def OpsAt (w : World) (A : Option Addr) (n c : Nat) (l : List Opn) : Prop := l.length = n ∧ ∀ j o, l[j]? = some o → ∃ g cs, A = some ⟨g, 0, none⟩ ∧ n ≤ c ∧ w.heap[g]? = some (.cells cs 33 (0, 0)) ∧
  cs[j * 6]? = some (.int .i64 o.code) ∧ cs[j * 6 + 1]? = some (.int .i64 o.res) ∧ cs[j * 6 + 2]? = some (.int .i64 0) ∧ cs[j * 6 + 3]? = some (.int .i64 0) ∧ cs[j * 6 + 4]? = some (.int .u16 o.n) ∧ cs[j * 6 + 5]? = some (.slice none 0 0)
theorem OpsAt.low {w w' : World} {A : Option Addr} {n c : Nat} {l : List Opn} (h : OpsAt w A n c l) (hl : Low w.heap.size w w') : OpsAt w' A n c l := ⟨h.1, fun j o hj => by
  obtain ⟨g, cs, e, hc, hg, r⟩ := h.2 j o hj
  exact ⟨g, cs, e, hc, hl.some hg, r⟩⟩
/-- The operations' definitions: a map whose keys are no parameters. -/
def DefOk (w : World) (df : Nat) : Prop := ∃ m, IMap w df m ∧ ∀ p ∈ m, 0 < p.1
theorem IMap.low {w w' : World} {g : Nat} {m : List (Int × Value)} (h : IMap w g m) (hl : Low w.heap.size w w') : IMap w' g m := by
  obtain ⟨es, cl, hg, he⟩ := h
  exact ⟨es, cl, hl.some hg, he⟩
theorem DefOk.low {w w' : World} {g : Nat} (h : DefOk w g) (hl : Low w.heap.size w w') : DefOk w' g := by
  obtain ⟨m, hm, hp⟩ := h
  exact ⟨m, hm.low hl, hp⟩
theorem DefOk.zero {w : World} {g : Nat} (h : DefOk w g) : ∃ m, IMap w g m ∧ getI m 0 = none ∧ ∀ p ∈ m, 0 < p.1 := by
  obtain ⟨m, hm, hp⟩ := h
  refine ⟨m, hm, ?_, hp⟩
  unfold getI
  rw [List.find?_eq_none.2 (fun p hpm => by have := hp p hpm; simp; omega)]
  rfl
def OkOp (o : Opn) : Prop := OkCode o.code ∧ (o.res < 0 ∨ 0 < o.res) ∧ (opRes o.code = true → 0 < o.res) ∧ (opRes o.code = false → o.res = -1)
/-- Results grow. -/
def Inc (l : List Opn) : Prop := l.Pairwise fun a b => 0 < a.res → 0 < b.res → a.res < b.res
/-- A graph: its own block, its one block, its maps; l: the operations. -/
structure Gr (w : World) (gr bk al df nm ob cm om : Nat) (next : Int) (Pp : Option Addr) (pc : Nat) (A : Option Addr) (n c : Nat) (T : Option Addr) (tc : Nat) (l : List Opn) : Prop where
  g : w.heap[gr]? = some (.cells #[.pointer (some ⟨bk, 0, none⟩), .int .i64 next, .map (some al), .map (some df), .map (some nm), .map (some ob), .map (some cm), .map (some om)] 74 (0, 0))
  b : w.heap[bk]? = some (.cells #[.slice Pp 1 pc, .slice A n c, .int .i64 4, .int .i64 (-1), .slice T 0 tc] 78 (0, 0))
  al_ : Empty w al
  nm_ : Empty w nm
  ob_ : Empty w ob
  cm_ : Empty w cm
  om_ : Empty w om
  ops : OpsAt w A n c l
  df_ : DefOk w df
  ok : ∀ o ∈ l, OkOp o
  small : n ≤ 12
  dne : df ≠ al ∧ df ≠ nm ∧ df ≠ ob ∧ df ≠ cm ∧ df ≠ om
  inc : Inc l
theorem Empty.low {w w' : World} {g : Nat} (h : Empty w g) (hl : Low w.heap.size w w') : Empty w' g := by
  obtain ⟨cl, hg⟩ := h
  exact ⟨cl, hl.some hg⟩
theorem Gr.low {w w' : World} {gr bk al df nm ob cm om : Nat} {next : Int} {Pp : Option Addr} {pc : Nat} {A : Option Addr} {n c : Nat} {T : Option Addr} {tc : Nat} {l : List Opn} (h : Gr w gr bk al df nm ob cm om next Pp pc A n c T tc l) (hl : Low w.heap.size w w') : Gr w' gr bk al df nm ob cm om next Pp pc A n c T tc l :=
  ⟨hl.some h.g, hl.some h.b, h.al_.low hl, h.nm_.low hl, h.ob_.low hl, h.cm_.low hl, h.om_.low hl, h.ops.low hl, h.df_.low hl, h.ok, h.small, h.dne, h.inc⟩
theorem one_same {w : World} {g i : Nat} {v : Value} {cs : Array Value} {e : TypeId} {fr : Nat × Nat} (h : w.heap[g]? = some (.cells cs e fr)) (hv : cs[i]? = some v) (S : Nat) : Low S w (w.setCell ⟨g, i, none⟩ v) :=
  ⟨rfl, rfl, by rw [set_size]; exact Nat.le_refl _, fun b _ => by
    by_cases hb : b = g
    · subst hb; rw [set_same h hv, h]
    · exact set_other hb⟩
/-- An operation is laid where it lies. -/
theorem six_same {w : World} {g k : Nat} {cs : Array Value} {e : TypeId} {v0 v1 v2 v3 v4 v5 : Value} (h : w.heap[g]? = some (.cells cs e (0, 0))) (h0 : cs[k]? = some v0) (h1 : cs[k + 1]? = some v1) (h2 : cs[k + 2]? = some v2) (h3 : cs[k + 3]? = some v3) (h4 : cs[k + 4]? = some v4) (h5 : cs[k + 5]? = some v5) :
    ∀ w', w' = (((((w.setCell ⟨g, k, none⟩ v0).setCell ⟨g, k + 1, none⟩ v1).setCell ⟨g, k + 2, none⟩ v2).setCell ⟨g, k + 3, none⟩ v3).setCell ⟨g, k + 4, none⟩ v4).setCell ⟨g, k + 5, none⟩ v5 → ∀ S, Low S w w' := by
  rintro w' rfl S
  have e0 := set_same (i := k) (v := v0) h h0
  have e1 := set_same (i := k + 1) (v := v1) e0 h1
  have e2 := set_same (i := k + 2) (v := v2) e1 h2
  have e3 := set_same (i := k + 3) (v := v3) e2 h3
  have e4 := set_same (i := k + 4) (v := v4) e3 h4
  exact (((((one_same h h0 S).trans (one_same e0 h1 S)).trans (one_same e1 h2 S)).trans (one_same e2 h3 S)).trans (one_same e3 h4 S)).trans (one_same e4 h5 S)
theorem enters40 : ∀ (args : Array Value) (w : World), (callFunc 40 args).run Tryz.prog w = .ok (.enter 40 args) w := enters_body Tryz.func40 (by kernel_rfl) rfl
/-- find as a function of a value. -/
theorem find_keeps (wd : World) (gr al : Nat) (hc : wd.cell? ⟨gr, 2, none⟩ = some (.map (some al))) (he : Empty wd al) : Keeps0 wd.heap.size (fun wx => Low wd.heap.size wd wx) 40 #[.pointer (some ⟨gr, 0, none⟩)] #[] := fun w1 h1 => by
  have hc1 : w1.cell? ⟨gr, 2, none⟩ = some (.map (some al)) := (World.cell?_of_block (h1.block gr (cell_lt hc))).trans hc
  refine (find_any w1 gr al 0 hc1 (he.low h1)).mono ?_
  rintro e w2 ⟨rfl, rfl⟩
  exact ⟨rfl, h1, Nat.le_refl _, fun _ _ _ => rfl⟩
end Go.Proofs.YtnjdegjpmbdboaaGreat
