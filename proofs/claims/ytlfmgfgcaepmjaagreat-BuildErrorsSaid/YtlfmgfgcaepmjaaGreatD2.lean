/- What operators makes: one closure, one store into its map, and what is known of its slots. -/
import Derived.Test.YtlfmgfgcaepmjaaGreatD1
import Derived.Test.YtlfmgfgcaepmjaaGreatA0
import Derived.Test.YtlfmgfgcaepmjaaGreatProg
import Derived.Tactics
import Derived.Tactics2
import Derived.WalkKit
import Derived.KernelRfl
set_option linter.unusedSimpArgs false
set_option linter.unusedVariables false
set_option linter.unusedSectionVars false
set_option linter.unusedSimpArgs false
set_option linter.unusedVariables false
set_option linter.unusedSectionVars false
namespace Go.Proofs.YtlfmgfgcaepmjaaGreat
open Go.RowKit
set_option linter.unusedVariables false
set_option linter.unusedSimpArgs false
/-- simple: a closure over the receiver's variable and a new one for the code. -/
theorem simple_any (b : Value) (code : Int) (w : World) : Calls Tryz.prog 647 #[.int .i64 code, b] w fun e w' => e = .returned (.func (.func 648) #[] #[b, .pointer (some ⟨w.heap.size, 0, none⟩)]) ∧ w' = w.alloc (.cells #[.int .i64 code] 3) := by
  have hmf : ∀ (fn : Fn) (first cap : Array Value) (w : World), (Instr.makeFunc fn first cap).run Tryz.prog w = .ok (.func fn first cap) w := fun _ _ _ _ => rfl
  go_enter Tryz.func647, Tryz.ntmps647
  go_wp2
  refine ⟨rfl, _, ?_, rfl, rfl⟩
  simp [results, Tryz.results647, go_sem]
theorem findNow_none {k : ByteArray} : ∀ (l : List MapEntry) (i : Nat), (∀ e ∈ l, ∃ s, e.key = .string s ∧ s ≠ k) → Instr.findNow .string (.string k) l i = some none := by
  intro l
  induction l with
  | nil => intro i _; rfl
  | cons e l ih =>
    intro i h
    obtain ⟨s, h1, h2⟩ := h e (List.mem_cons_self ..)
    have hne : (k == s) = false := by
      letI : Eng.Sym := { val := fun _ => 0 }
      exact Eng.bytes_beq_ne (Ne.symm h2)
    simp only [Instr.findNow, Instr.sameNow, h1, hne]
    exact ih (i + 1) fun x hx => h x (List.mem_cons_of_mem _ hx)
theorem insert_run {P : Program} {t kt et : TypeId} (hu : P.underlying t = some (.map kt et)) (hk : P.underlying kt = some .string) {w : World} {m clock : Nat} {es : Array MapEntry} (hm : w.heap[m]? = some (.map es clock)) {k : ByteArray}
    (hne : ∀ e ∈ es.toList, ∃ s, e.key = .string s ∧ s ≠ k) (v : Value) :
    (Instr.mapUpdate t (.map (some m)) (.string k) v).run P w = .ok () { w with heap := w.heap.setIfInBounds m (.map (es.push ⟨.string k, v, clock⟩) (clock + 1)) } := by
  have hck : (Instr.checkKey false 10000 kt (.string k)).run P w = .ok () w := by
    have key : ∀ n, (Instr.checkKey false (n + 1) kt (.string k)).run P w = .ok () w := fun n => by
      simp only [Instr.checkKey, Sem.run_bind, run_underlying hk, Result.andThen_ok, Sem.run_pure]
    exact key 9999
  have hf : (Instr.findKey kt (.string k) es.toList).run P w = .ok none w := by
    simp only [Instr.findKey, Sem.run_bind, run_underlying hk, Result.andThen_ok, findNow_none es.toList 0 hne, Sem.run_pure]
  have hg : (getObj m).run P w = .ok (.map es clock) w := by simp only [getObj, Sem.run, hm]
  have hs : ∀ o', (Go.setObj m o').run P w = .ok () { w with heap := w.heap.setIfInBounds m o' } := fun o' => by simp only [Go.setObj, Sem.run, hm]
  simp only [Instr.mapUpdate, Sem.run_bind, run_underlying hu, Result.andThen_ok, hg, hck, hf, hs]
/-- What slots hold, each from an operation on. -/
def Slots (real : Nat → Prop) (sl : List (Option Nat × Nat × Value)) (tmps : Array Value) : Prop := ∀ x ∈ sl, (∀ j, x.1 = some j → real j) → tmps.getD x.2.1 undef = x.2.2
theorem Slots.put {real : Nat → Prop} {sl : List (Option Nat × Nat × Value)} {tmps : Array Value} {d i : Nat} {v : Value} (h : Slots real sl tmps) (hd : d < tmps.size)
    (hS : ∀ x ∈ sl, (x.1 = some i → x.2.1 = d ∧ x.2.2 = v) ∧ (x.1 ≠ some i → x.2.1 ≠ d)) : Slots (fun j => real j ∨ j = i) sl (tmps.setIfInBounds d v) := by
  intro x hx hr
  obtain ⟨h1, h2⟩ := hS x hx
  by_cases he : x.1 = some i
  · obtain ⟨e1, e2⟩ := h1 he
    rw [e1, e2]
    simp [hd]
  · have hne := h2 he
    have h3 := h x hx fun j hj => (hr j hj).resolve_right fun e => he (by rw [hj, e])
    rw [← h3]
    have : (tmps.setIfInBounds d v)[x.2.1]? = tmps[x.2.1]? := Array.getElem?_setIfInBounds_ne (Ne.symm hne)
    simp [this]
theorem Slots.same {real : Nat → Prop} {sl : List (Option Nat × Nat × Value)} {tmps : Array Value} {i : Nat} (h : Slots real sl tmps) (hS : ∀ x ∈ sl, x.1 ≠ some i) : Slots (fun j => real j ∨ j = i) sl tmps :=
  fun x hx hr => h x hx fun j hj => (hr j hj).resolve_right fun e => hS x hx (by rw [hj, e])
section
variable {P : Program} {ops : Array Oper} {Q : Exit → Act → World → Prop} {i : Nat} {K : Act → World → Prop} {a : Act} {w w' : World} {op : Op} {dst : Option Tmp} {v : Value}
/-- The operation at a place, without a guard. -/
def OpAt (ops : Array Oper) (i : Nat) (op : Op) (dst : Option Tmp) : Prop := ∃ o, ops[i]? = some o ∧ o.op = op ∧ o.dst = dst ∧ o.guard = none
theorem wanted_of {o : Oper} (h : o.guard = none) (y : Nat → Option Bool) : Region.wanted o y = true := by unfold Region.wanted; rw [h]
theorem wpOp_value (h : OpAt ops i op dst) (hr : ∀ o : Oper, o.op = op → (execOp a.eval o).run P w = .ok (.value v) w') (hK : K (a.put dst v) w') : wpOp P ops Q i K a w := by
  obtain ⟨o, h1, h2, h3, h4⟩ := h
  unfold wpOp
  rw [h1]
  simp only
  rw [if_pos (by unfold Region.wanted; rw [h4])]
  refine .inl ?_
  unfold Oper.wp
  rw [hr o h2, Oper.upon_value, h3]
  exact hK
theorem wpOp_skip (h : OpAt ops i op none) (hr : ∀ o : Oper, o.op = op → (execOp a.eval o).run P w = .ok .skip w') (hK : K a w') : wpOp P ops Q i K a w := by
  obtain ⟨o, h1, h2, h3, h4⟩ := h
  unfold wpOp
  rw [h1]
  simp only
  rw [if_pos (by unfold Region.wanted; rw [h4])]
  refine .inl ?_
  unfold Oper.wp
  rw [hr o h2, Oper.upon_skip, h3]
  exact hK
theorem wpOp_enter {f : FuncId} {args : Array Value} (h : OpAt ops i op dst) (hr : ∀ o : Oper, o.op = op → (execOp a.eval o).run P w = .ok (.enter f args) w') (hK : Calls P f args w' fun e w'' => ∃ v, e = .returned v ∧ K (a.put dst v) w'') : wpOp P ops Q i K a w := by
  obtain ⟨o, h1, h2, h3, h4⟩ := h
  unfold wpOp
  rw [h1]
  simp only
  rw [if_pos (by unfold Region.wanted; rw [h4])]
  refine .inl ?_
  unfold Oper.wp
  rw [hr o h2, Oper.upon_enter, h3]
  refine hK.mono ?_
  rintro e w'' ⟨v, rfl, hv⟩
  exact hv
end
end Go.Proofs.YtlfmgfgcaepmjaaGreat
