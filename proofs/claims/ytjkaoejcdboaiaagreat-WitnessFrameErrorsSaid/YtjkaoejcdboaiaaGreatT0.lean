/- Steps of regions that draw their order. -/
import Derived.Test.YtjkaoejcdboaiaaGreatL2
import Derived.Test.YtjkaoejcdboaiaaGreatN2
import Derived.WalkSpells
import Derived.Handy
set_option linter.unusedSimpArgs false
set_option linter.unusedVariables false
set_option linter.unusedSectionVars false
/- The reference's Format and Size of every operation, by runs. -/
namespace Go.Proofs.YtjkaoejcdboaiaaGreat
open Go.RowKit Go.Eng
set_option linter.unusedVariables false
set_option linter.unusedSectionVars false
set_option maxRecDepth 100000
/-- The kind of an operation's format in the reference's table, or 0. -/
def kindP (op : Nat) : Nat :=
  if op ≤ 5 then 1 else if 16 ≤ op ∧ op ≤ 19 then 2 else if op = 20 ∨ op = 21 then 3 else if 32 ≤ op ∧ op ≤ 46 then 4 else if 48 ≤ op ∧ op ≤ 62 then 5 else if 64 ≤ op ∧ op ≤ 78 then 6
  else if 80 ≤ op ∧ op ≤ 83 then 7 else if 88 ≤ op ∧ op ≤ 91 then 8 else if 84 ≤ op ∧ op ≤ 87 then 9 else if 96 ≤ op ∧ op ≤ 109 then 10 else if 112 ≤ op ∧ op ≤ 125 then 11 else if op = 128 then 10 else if op = 129 ∨ op = 130 then 11
  else if op = 131 ∨ op = 132 then 12 else if op = 133 then 13 else if op = 134 then 14 else if op = 144 ∨ op = 145 then 15 else if op = 146 ∨ op = 147 then 16 else if op = 150 then 17 else if op = 160 ∨ op = 161 then 15 else if op = 162 ∨ op = 163 then 18 else 0
def kindA (op : Nat) : AV := .int .i64 (.ofNat (kindP op))
theorem kind_run0 : (List.range' 0 41).all (fun n => flatRun 12 [.int .i64 (.ofNat n)] (kindA n)) = true := by decide +kernel
theorem kind_run1 : (List.range' 41 41).all (fun n => flatRun 12 [.int .i64 (.ofNat n)] (kindA n)) = true := by decide +kernel
theorem kind_run2 : (List.range' 82 41).all (fun n => flatRun 12 [.int .i64 (.ofNat n)] (kindA n)) = true := by decide +kernel
theorem kind_run3 : (List.range' 123 41).all (fun n => flatRun 12 [.int .i64 (.ofNat n)] (kindA n)) = true := by decide +kernel
theorem ops_all {p : Nat → Bool} (h0 : (List.range' 0 41).all p = true) (h1 : (List.range' 41 41).all p = true) (h2 : (List.range' 82 41).all p = true) (h3 : (List.range' 123 41).all p = true) {n : Nat} (hn : n < 164) : p n = true := by
  rw [List.all_eq_true] at h0 h1 h2 h3
  by_cases a : n < 41
  · exact h0 n (List.mem_range'.2 ⟨n, a, by omega⟩)
  · by_cases b : n < 82
    · exact h1 n (List.mem_range'.2 ⟨n - 41, by omega, by omega⟩)
    · by_cases c : n < 123
      · exact h2 n (List.mem_range'.2 ⟨n - 82, by omega, by omega⟩)
      · exact h3 n (List.mem_range'.2 ⟨n - 123, by omega, by omega⟩)
theorem kind_any {op : Nat} (hop : op < 164) (w : World) : Calls Tryz.prog 12 #[.int .i64 op] w (fun e w' => e = .returned (.int .i64 (kindP op)) ∧ Only w w') :=
  flat_calls (c := kindA op) (fun ρ => by letI := s0; exact .cons _ _ _ _ (.int _ _) .nil) rfl (ops_all kind_run0 kind_run1 kind_run2 kind_run3 hop) w
theorem rsize_run0 : (List.range' 0 41).all (fun n => flatRun 13 [.int .u8 (.ofNat n)] (sizeA n)) = true := by decide +kernel
theorem rsize_run1 : (List.range' 41 41).all (fun n => flatRun 13 [.int .u8 (.ofNat n)] (sizeA n)) = true := by decide +kernel
theorem rsize_run2 : (List.range' 82 41).all (fun n => flatRun 13 [.int .u8 (.ofNat n)] (sizeA n)) = true := by decide +kernel
theorem rsize_run3 : (List.range' 123 41).all (fun n => flatRun 13 [.int .u8 (.ofNat n)] (sizeA n)) = true := by decide +kernel
theorem rsize_any {op : Nat} (hop : op < 164) (w : World) : Calls Tryz.prog 13 #[.int .u8 op] w (fun e w' => e = .returned (.int .i64 (sizeP op)) ∧ Only w w') :=
  flat_calls (c := sizeA op) (fun ρ => by letI := s0; exact .cons _ _ _ _ (.int _ _) .nil) rfl (ops_all rsize_run0 rsize_run1 rsize_run2 rsize_run3 hop) w
end Go.Proofs.YtjkaoejcdboaiaaGreat
/- The reference: extend, two, reg, signed. -/
namespace Go.Proofs.YtjkaoejcdboaiaaGreat
open Go.RowKit Go.Eng
set_option linter.unusedVariables false
set_option linter.unusedSectionVars false
set_option maxRecDepth 100000
/-- A byte, extended with its sign. -/
def ext2 (c : Int) : Int := if c < 128 then c else 65280 + c
theorem rextend_any (c : Int) (h0 : 0 ≤ c) (h1 : c < 256) (w : World) : Calls Tryz.prog 14 #[.int .u8 c] w (fun e w' => e = .returned (.int .u16 (ext2 c)) ∧ w' = w) := by
  have e1 : IntKind.u16.wrap c = c := Go.IntWalk.u16_in _ (by omega)
  have e2 : IntKind.u16.wrap (65280 + c) = 65280 + c := Go.IntWalk.u16_in _ (by omega)
  unfold ext2
  by_cases h : c < 128
  · have hd : decide (c < 128) = true := by simpa using h
    go_enter Tryz.func14, Tryz.ntmps14
    go_wp2
    go_ret
    exact ⟨rfl, rfl⟩
  · have hd : decide (c < 128) = false := by simpa using h
    go_enter Tryz.func14, Tryz.ntmps14
    go_wp2
    go_ret
    exact ⟨rfl, rfl⟩
theorem reg_any (n : Int) (w : World) : Calls Tryz.prog 63 #[.int .i64 n] w (fun e w' => e = .returned (.bool (decide (0 ≤ n ∧ n < 8))) ∧ w' = w) := by
  by_cases h : 0 ≤ n
  · by_cases h2 : n < 8
    · have e : decide (0 ≤ n ∧ n < 8) = true := by simp; omega
      rw [e]
      go_enter Tryz.func63, Tryz.ntmps63
      go_wp2
      go_ret
      exact ⟨rfl, rfl⟩
    · have e : decide (0 ≤ n ∧ n < 8) = false := by simp; omega
      rw [e]
      go_enter Tryz.func63, Tryz.ntmps63
      go_wp2
      go_ret
      exact ⟨rfl, rfl⟩
  · have e : decide (0 ≤ n ∧ n < 8) = false := by simp; omega
    rw [e]
    go_enter Tryz.func63, Tryz.ntmps63
    go_wp2
    go_ret
    exact ⟨rfl, rfl⟩
theorem signed_any (n : Int) (w : World) : Calls Tryz.prog 64 #[.int .u16 n] w (fun e w' => e = .returned (.bool (decide (n < 128 ∨ 65408 ≤ n))) ∧ w' = w) := by
  by_cases h : n < 128
  · have e : decide (n < 128 ∨ 65408 ≤ n) = true := by simp; omega
    rw [e]
    go_enter Tryz.func64, Tryz.ntmps64
    go_wp2
    go_ret
    exact ⟨rfl, rfl⟩
  · by_cases h2 : 65408 ≤ n
    · have e : decide (n < 128 ∨ 65408 ≤ n) = true := by simp; omega
      rw [e]
      go_enter Tryz.func64, Tryz.ntmps64
      go_wp2
      go_ret
      exact ⟨rfl, rfl⟩
    · have e : decide (n < 128 ∨ 65408 ≤ n) = false := by simp; omega
      rw [e]
      go_enter Tryz.func64, Tryz.ntmps64
      go_wp2
      go_ret
      exact ⟨rfl, rfl⟩
theorem rtwo_any (n : Int) (w : World) : Calls Tryz.prog 35 #[.int .u16 n] w (fun e w' => e = .returned (.slice (some ⟨w.heap.size, 0, none⟩) 2 2) ∧ w' = w.alloc (.cells #[.int .u8 (n % 256), .int .u8 (n / 256 % 256)] 5)) := by
  go_enter Tryz.func35, Tryz.ntmps35
  go_wp2
  go_ret
  exact ⟨rfl, rfl⟩
end Go.Proofs.YtjkaoejcdboaiaaGreat
namespace Go.Proofs.YtjkaoejcdboaiaaGreat
open Go.RowKit
set_option linter.unusedVariables false
theorem setBlock_at {w : World} {g : Nat} (o : Obj) (h : g < w.heap.size) : (Go.ChangeMaps.setBlock w g o).heap[g]? = some o := by simp [Go.ChangeMaps.setBlock, h]
theorem take_at {P : Program} {ops : Array Oper} {Q : Exit → Act → World → Prop} {md : Region.Mode} {S : World → Prop} {i n : Nat} {oi : Oper} {l : List Oper} {v : Value} {li : Array Bool} {a : Act} {w : World} (hl : List.drop i ops.toList = oi :: l)
    (hs : Region.noSelect ops = true) (hf : Region.free md ops li i = true) (hr : (Region.ready md ops li).contains i = true) (hQ : ∀ c a w, Q (.panic c) (a.put oi.dst v) w → Q (.panic c) a w)
    (hw : Region.wanted oi (yielded ops a.tmps) = true) (hy : ∀ w, S w → (execOp a.eval oi).run P w = .ok (.value v) w) (hS : S w)
    (h : wpAnyH P md ops Q S n (li.setIfInBounds i true) (a.put oi.dst v) w) : wpAnyH P md ops Q S (n + 1) li a w := by
  have hi : ops[i]? = some oi := by
    rw [← Array.getElem?_toList, ← List.head?_drop, hl]; rfl
  exact wpAnyH_take hi hs hf hr hQ (Or.inl ⟨hw, hy⟩) hS h
/-- One of the operations that may come up next. -/
theorem next_at {P : Program} {ops : Array Oper} {Q : Exit → Act → World → Prop} {md : Region.Mode} {S : World → Prop} {i n : Nat} {oi : Oper} {l : List Oper} {li : Array Bool} {a : Act} {w : World} {rs : List Nat} (hl : List.drop i ops.toList = oi :: l)
    (h : ∀ K' : Act → World → Prop, Shut (∀ a w, S w → (S w → wpAnyH P md ops Q S n (li.setIfInBounds i true) a w) → K' a w) → if Region.wanted oi (yielded ops a.tmps) = true then Oper.wp P oi a w K' Q else K' (a.put oi.dst undef) w)
    (hs : AllReadyH P md ops Q S n li a w rs) : AllReadyH P md ops Q S n li a w (i :: rs) := by
  have hi : ops[i]? = some oi := by
    rw [← Array.getElem?_toList, ← List.head?_drop, hl]; rfl
  exact AllReadyH.cons hi h hs
theorem step_call {P : Program} {ops : Array Oper} {o : Oper} {a : Act} {w : World} {KK : Act → World → Prop} {Q : Exit → Act → World → Prop} {E : Prop} (hgd : o.guard = none) (f : FuncId) (args : Array Value) (hr : (execOp a.eval o).run P w = .ok (.enter f args) w)
    (R : Value → World → Prop) (hc : Calls P f args w (fun e w' => ∃ v, e = .returned v ∧ R v w')) (h : ∀ v w', R v w' → KK (a.put o.dst v) w') : if Region.wanted o (yielded ops a.tmps) = true then Oper.wp P o a w KK Q else E := by
  have hw : Region.wanted o (yielded ops a.tmps) = true := by simp [Region.wanted, hgd]
  rw [if_pos hw]
  unfold Oper.wp
  rw [hr, Oper.upon_enter]
  refine hc.mono ?_
  rintro e w' ⟨v, rfl, hR⟩
  exact h v w' hR
theorem step_callg {P : Program} {ops : Array Oper} {o : Oper} {a : Act} {w : World} {KK : Act → World → Prop} {Q : Exit → Act → World → Prop} {E : Prop} (hw : Region.wanted o (yielded ops a.tmps) = true) (f : FuncId) (args : Array Value) (hr : (execOp a.eval o).run P w = .ok (.enter f args) w)
    (R : Value → World → Prop) (hc : Calls P f args w (fun e w' => ∃ v, e = .returned v ∧ R v w')) (h : ∀ v w', R v w' → KK (a.put o.dst v) w') : if Region.wanted o (yielded ops a.tmps) = true then Oper.wp P o a w KK Q else E := by
  rw [if_pos hw]
  unfold Oper.wp
  rw [hr, Oper.upon_enter]
  refine hc.mono ?_
  rintro e w' ⟨v, rfl, hR⟩
  exact h v w' hR
end Go.Proofs.YtjkaoejcdboaiaaGreat
