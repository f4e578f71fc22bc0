/- An operation's operands are mapped. -/
import Derived.Test.YtnjdegjpmbdboaaGreatQ2
namespace Go.Proofs.YtnjdegjpmbdboaaGreat
open Go.RowKit
set_option linter.unusedVariables false
/-- An operation of the statement's functions: both operands are value 0, no arguments. -/
structure Opn where
  code : Int
  res : Int
  n : Int
def Opn.cells (o : Opn) : Array Value := #[.int .i64 o.code, .int .i64 o.res, .int .i64 0, .int .i64 0, .int .u16 o.n, .slice none 0 0]
set_option maxHeartbeats 400000 in
theorem all_nil (w : World) (f : Value) : Calls Tryz.prog 34 #[.slice none 0 0, f] w (fun e w' => e = .returned (.slice none 0 0) ∧ w' = w) := by
  go_enter Tryz.func34, Tryz.ntmps34
  go_wp2
  go_loopw [10, 5] (fun i s wr => i = .int .i64 0 ∧ s = .slice none 0 0 ∧ wr = w) (fun _ _ _ => 0)
  case atStart => exact ⟨rfl, rfl, rfl⟩
  case round =>
    obtain ⟨rfl, rfl, rfl⟩ := hrel
    go_wp2
    go_ret
    exact ⟨rfl, rfl⟩
/-- Six cells are laid. -/
theorem six_sets {w : World} {g : Nat} {e : TypeId} {a0 a1 a2 a3 a4 a5 v0 v1 v2 v3 v4 v5 : Value} (h : w.heap[g]? = some (.cells #[a0, a1, a2, a3, a4, a5] e (0, 0))) :
    ∀ w', w' = (((((w.setCell ⟨g, 0, none⟩ v0).setCell ⟨g, 1, none⟩ v1).setCell ⟨g, 2, none⟩ v2).setCell ⟨g, 3, none⟩ v3).setCell ⟨g, 4, none⟩ v4).setCell ⟨g, 5, none⟩ v5 → w'.heap[g]? = some (.cells #[v0, v1, v2, v3, v4, v5] e (0, 0)) ∧ (∀ b, b ≠ g → w'.heap[b]? = w.heap[b]?) ∧ w'.heap.size = w.heap.size ∧ ∀ (S : Nat) (I : World → Prop), Inv S I → S ≤ g → I w → I w' := by
  rintro w' rfl
  refine ⟨set_blk (set_blk (set_blk (set_blk (set_blk (set_blk h))))), fun b hb => ?_, by simp only [set_size], fun S I hI hS hi => hI.set _ _ _ _ hS (hI.set _ _ _ _ hS (hI.set _ _ _ _ hS (hI.set _ _ _ _ hS (hI.set _ _ _ _ hS (hI.set _ _ _ _ hS hi)))))⟩
  rw [set_other hb, set_other hb, set_other hb, set_other hb, set_other hb, set_other hb]
/-- A function that has a body is entered. -/
theorem enters_body {k : FuncId} {fn : Func} {c : Code} (hf : Tryz.prog.funcs[k]? = some fn) (hname : (fn.name == "runtime.NumGoroutine") = false) (hb : fn.body = some c) : ∀ (args : Array Value) (w : World), (callFunc k args).run Tryz.prog w = .ok (.enter k args) w := by
  intro args w
  have h1 : fn.name ≠ "runtime.NumGoroutine" := by simpa using hname
  simp [callFunc, hf, h1, hb, mark]
/-- A fact that allocs, and stores into the two blocks from S on, leave as it is. -/
structure Inv2 (S : Nat) (I : World → Prop) : Prop where
  alloc : ∀ w o, I w → I (w.alloc o)
  set : ∀ w g i v, S ≤ g → g < S + 2 → I w → I (w.setCell ⟨g, i, none⟩ v)
theorem Inv.two {S : Nat} {I : World → Prop} (h : Inv S I) : Inv2 S I := ⟨h.alloc, fun w g i v h1 _ h3 => h.set w g i v h1 h3⟩
theorem six_sets2 {w : World} {g : Nat} {v0 v1 v2 v3 v4 v5 : Value} {S : Nat} {I : World → Prop} (hI : Inv2 S I) (h1 : S ≤ g) (h2 : g < S + 2) (hi : I w) :
    I ((((((w.setCell ⟨g, 0, none⟩ v0).setCell ⟨g, 1, none⟩ v1).setCell ⟨g, 2, none⟩ v2).setCell ⟨g, 3, none⟩ v3).setCell ⟨g, 4, none⟩ v4).setCell ⟨g, 5, none⟩ v5) :=
  hI.set _ _ _ _ h1 h2 (hI.set _ _ _ _ h1 h2 (hI.set _ _ _ _ h1 h2 (hI.set _ _ _ _ h1 h2 (hI.set _ _ _ _ h1 h2 (hI.set _ _ _ _ h1 h2 hi)))))
/-- What the k-th call of a function of a value does, with value 0. -/
def KeepsN (S N : Nat) (I : Nat → World → Prop) (k : FuncId) (fi caps : Array Value) : Prop := ∀ c w1, c < N → I c w1 → S + 2 ≤ w1.heap.size → Calls Tryz.prog k (fi ++ #[.int .i64 0] ++ caps) w1 (fun e w2 => e = .returned (.int .i64 0) ∧ I (c + 1) w2 ∧ w1.heap.size ≤ w2.heap.size ∧ ∀ g, S ≤ g → g < w1.heap.size → w2.heap[g]? = w1.heap[g]?)
/-- How many operands an operation has. -/
def opCount (c : Int) : Nat := (opA c).toNat + (opB c).toNat
/-- What a function of a value does that is called with value 0: it answers 0, keeps I, and leaves the blocks from S on as they are. -/
def Keeps0 (S : Nat) (I : World → Prop) (k : FuncId) (fi caps : Array Value) : Prop := ∀ w1, I w1 → Calls Tryz.prog k (fi ++ #[.int .i64 0] ++ caps) w1 (fun e w2 => e = .returned (.int .i64 0) ∧ I w2 ∧ w1.heap.size ≤ w2.heap.size ∧ ∀ g, S ≤ g → g < w1.heap.size → w2.heap[g]? = w1.heap[g]?)
set_option maxRecDepth 100000 in
set_option maxHeartbeats 4000000 in
theorem mapOp_n (I : Nat → World → Prop) (w : World) (o : Opn) (k : FuncId) (fi caps : Array Value) (hI : ∀ c, Inv2 w.heap.size (I c)) (hw : I 0 w) (ho : OkCode o.code) (he : ∀ (args : Array Value) (w : World), (callFunc k args).run Tryz.prog w = .ok (.enter k args) w) (hf : KeepsN w.heap.size (opCount o.code) I k fi caps) :
    Calls Tryz.prog 35 #[.agg #[.int .i64 o.code, .int .i64 o.res, .int .i64 0, .int .i64 0, .int .u16 o.n, .slice none 0 0], .func (.func k) fi caps] w (fun e w' => e = .returned (.agg #[.int .i64 o.code, .int .i64 o.res, .int .i64 0, .int .i64 0, .int .u16 o.n, .slice none 0 0]) ∧ I (opCount o.code) w') := by
  obtain ⟨xa, xb, hop, hcnt⟩ : ∃ xa xb : Bool, (∀ u, Calls Tryz.prog 71 #[.int .i64 o.code] u (fun e w' => e = .returned (.tuple #[.bool xa, .bool xb]) ∧ w' = u)) ∧ opCount o.code = xa.toNat + xb.toNat := ⟨opA o.code, opB o.code, fun u => operands_any u _ ho, rfl⟩
  rw [hcnt] at hf ⊢
  have hf' : ∀ c w1, c < xa.toNat + xb.toNat → I c w1 → w.heap.size + 2 ≤ w1.heap.size → Calls Tryz.prog k (fi ++ #[.int .i64 0] ++ caps) w1 (fun e w2 => e = .returned (.int .i64 0) ∧ I (c + 1) w2 ∧ w1.heap.size ≤ w2.heap.size ∧ ∀ g, w.heap.size ≤ g → g < w1.heap.size → w2.heap[g]? = w1.heap[g]?) := hf
  have HF := Lib.hid hf'; have HO := Lib.hid hop; have HI := Lib.hid hI
  have hI1 := (hI 0).alloc _ (.cells #[.int .i64 o.code, .int .i64 o.res, .int .i64 0, .int .i64 0, .int .u16 o.n, .slice none 0 0] 33) hw
  have hI2 := (hI 0).alloc _ (.cells #[.int .i64 0, .int .i64 0, .int .i64 0, .int .i64 0, .int .u16 0, .slice none 0 0] 33) hI1
  have hb := heap_old (.cells #[.int .i64 0, .int .i64 0, .int .i64 0, .int .i64 0, .int .u16 0, .slice none 0 0] 33) (heap_new w (.cells #[.int .i64 o.code, .int .i64 o.res, .int .i64 0, .int .i64 0, .int .u16 o.n, .slice none 0 0] 33))
  have hr : ((w.alloc (.cells #[.int .i64 o.code, .int .i64 o.res, .int .i64 0, .int .i64 0, .int .u16 o.n, .slice none 0 0] 33)).alloc (.cells #[.int .i64 0, .int .i64 0, .int .i64 0, .int .i64 0, .int .u16 0, .slice none 0 0] 33)).heap[w.heap.size + 1]? = some (.cells #[.int .i64 0, .int .i64 0, .int .i64 0, .int .i64 0, .int .u16 0, .slice none 0 0] 33 (0, 0)) := by
    have := heap_new (w.alloc (.cells #[.int .i64 o.code, .int .i64 o.res, .int .i64 0, .int .i64 0, .int .u16 o.n, .slice none 0 0] 33)) (.cells #[.int .i64 0, .int .i64 0, .int .i64 0, .int .i64 0, .int .u16 0, .slice none 0 0] 33)
    have e : (w.alloc (.cells #[.int .i64 o.code, .int .i64 o.res, .int .i64 0, .int .i64 0, .int .u16 o.n, .slice none 0 0] 33)).heap.size = w.heap.size + 1 := by simp
    rw [e] at this; exact this
  clear hf hf' ho hop hI hw hI1 hcnt
  go_enter Tryz.func35, Tryz.ntmps35
  go_upto_region 1 with fail
  generalize (w.alloc (.cells #[.int .i64 o.code, .int .i64 o.res, .int .i64 0, .int .i64 0, .int .u16 o.n, .slice none 0 0] 33)).alloc (.cells #[.int .i64 0, .int .i64 0, .int .i64 0, .int .i64 0, .int .u16 0, .slice none 0 0] 33) = w2 at hI2 hb hr ⊢
  generalize w.heap.size = S at hb hr HF HI ⊢
  have c0 : w2.cell? ⟨S, 0, none⟩ = some (.int .i64 o.code) := cell_of hb
  have HI2 := Lib.hid hI2; have HB := Lib.hid hb; have HR := Lib.hid hr
  clear hI2 hb hr
  go_upto_if 13 with (first
    | (go_at_call 71; (with_reducible refine (HO.out _).mono ?_); rintro e w3 ⟨rfl, he3⟩; rw [he3]; clear he3 w3))
  clear c0
  go_cut [] (fun wx => I xa.toNat wx ∧ wx.heap[S]? = some (.cells #[.int .i64 o.code, .int .i64 o.res, .int .i64 0, .int .i64 0, .int .u16 o.n, .slice none 0 0] 33 (0, 0)) ∧ wx.heap[S + 1]? = some (.cells #[.int .i64 0, .int .i64 0, .int .i64 0, .int .i64 0, .int .u16 0, .slice none 0 0] 33 (0, 0)))
  case first =>
    have b2 : w2.cell? ⟨S, 2, none⟩ = some (.int .i64 0) := cell_of HB.out
    cases xa
    · go_wp2_with fail
      go_meet
      exact ⟨HI2.out, HB.out, HR.out⟩
    · go_wp2_with (first
        | (refine (HF.out 0 _ (by cases xb <;> decide) HI2.out (by have := heap_lt HR.out; omega)).mono ?_; rintro e w3 ⟨rfl, hi3, hs3, hf3⟩; have hb3 := (hf3 _ (Nat.le_refl _) (heap_lt HB.out)).trans HB.out; have hr3 := (hf3 _ (Nat.le_succ _) (heap_lt HR.out)).trans HR.out; have g2 : w3.frozen? ⟨S, 2, none⟩ = false := free_of hb3; have b3 : w3.cell? ⟨S, 2, none⟩ = some (.int .i64 0) := cell_of hb3; have HI3 := Lib.hid hi3; have HB3 := Lib.hid hb3; have HR3 := Lib.hid hr3; clear hi3 hf3 hb3 hr3))
      go_meet
      exact ⟨(HI.out _).set _ _ _ _ (Nat.le_refl _) (by omega) HI3.out, set_same HB3.out rfl, (set_other (by omega)).trans HR3.out⟩
  case rest =>
    obtain ⟨hi, hb, hr⟩ := hcut
    have HI2 := Lib.hid hi; have HB := Lib.hid hb; have HR := Lib.hid hr
    clear hi hb hr
    go_upto_if 19 with fail
    go_cut [] (fun wx => I (xa.toNat + xb.toNat) wx ∧ wx.heap[S]? = some (.cells #[.int .i64 o.code, .int .i64 o.res, .int .i64 0, .int .i64 0, .int .u16 o.n, .slice none 0 0] 33 (0, 0)) ∧ wx.heap[S + 1]? = some (.cells #[.int .i64 0, .int .i64 0, .int .i64 0, .int .i64 0, .int .u16 0, .slice none 0 0] 33 (0, 0)))
    case first =>
      have b2 : wc.cell? ⟨S, 3, none⟩ = some (.int .i64 0) := cell_of HB.out
      cases xb
      · go_wp2_with fail
        go_meet
        exact ⟨HI2.out, HB.out, HR.out⟩
      · go_wp2_with (first
          | (refine (HF.out xa.toNat _ (by cases xa <;> decide) HI2.out (by have := heap_lt HR.out; omega)).mono ?_; rintro e w3 ⟨rfl, hi3, hs3, hf3⟩; have hb3 := (hf3 _ (Nat.le_refl _) (heap_lt HB.out)).trans HB.out; have hr3 := (hf3 _ (Nat.le_succ _) (heap_lt HR.out)).trans HR.out; have g2 : w3.frozen? ⟨S, 3, none⟩ = false := free_of hb3; have b3 : w3.cell? ⟨S, 3, none⟩ = some (.int .i64 0) := cell_of hb3; have HI3 := Lib.hid hi3; have HB3 := Lib.hid hb3; have HR3 := Lib.hid hr3; clear hi3 hf3 hb3 hr3))
        go_meet
        exact ⟨(HI.out _).set _ _ _ _ (Nat.le_refl _) (by omega) HI3.out, set_same HB3.out rfl, (set_other (by omega)).trans HR3.out⟩
    case rest =>
      obtain ⟨hi, hb, hr⟩ := hcut
      have d5 : wc.cell? ⟨S, 5, none⟩ = some (.slice none 0 0) := cell_of hb
      have f5 : wc.frozen? ⟨S, 5, none⟩ = false := free_of hb
      have HI2 := Lib.hid hi; have HB := Lib.hid hb; have HR := Lib.hid hr
      clear hi hb hr
      go_upto_region 7 with (first
        | (go_at_call 34; (with_reducible refine (all_nil _ _).mono ?_); rintro e w3 ⟨rfl, he3⟩; rw [he3]; clear he3 w3))
      have hi := (HI.out _).set _ S 5 (.slice none 0 0) (Nat.le_refl _) (by omega) HI2.out
      have hb := set_same (i := 5) (v := .slice none 0 0) HB.out rfl
      have hr := (set_other (i := 5) (v := .slice none 0 0) (show S + 1 ≠ S by omega)).trans HR.out
      generalize World.setCell _ _ _ = w4 at hi hb hr ⊢
      have e0 : w4.cell? ⟨S, 0, none⟩ = some (.int .i64 o.code) := cell_of hb
      have e1 : w4.cell? ⟨S, 1, none⟩ = some (.int .i64 o.res) := cell_of hb
      have e2 : w4.cell? ⟨S, 2, none⟩ = some (.int .i64 0) := cell_of hb
      have e3 : w4.cell? ⟨S, 3, none⟩ = some (.int .i64 0) := cell_of hb
      have e4 : w4.cell? ⟨S, 4, none⟩ = some (.int .u16 o.n) := cell_of hb
      have e5 : w4.cell? ⟨S, 5, none⟩ = some (.slice none 0 0) := cell_of hb
      have g0 : w4.frozen? ⟨S + 1, 0, none⟩ = false := free_of hr
      have g1 : w4.frozen? ⟨S + 1, 1, none⟩ = false := free_of hr
      have g2 : w4.frozen? ⟨S + 1, 2, none⟩ = false := free_of hr
      have g3 : w4.frozen? ⟨S + 1, 3, none⟩ = false := free_of hr
      have g4 : w4.frozen? ⟨S + 1, 4, none⟩ = false := free_of hr
      have g5 : w4.frozen? ⟨S + 1, 5, none⟩ = false := free_of hr
      have z0 : w4.cell? ⟨S + 1, 0, none⟩ = some (.int .i64 0) := cell_of hr
      have z1 : w4.cell? ⟨S + 1, 1, none⟩ = some (.int .i64 0) := cell_of hr
      have z2 : w4.cell? ⟨S + 1, 2, none⟩ = some (.int .i64 0) := cell_of hr
      have z3 : w4.cell? ⟨S + 1, 3, none⟩ = some (.int .i64 0) := cell_of hr
      have z4 : w4.cell? ⟨S + 1, 4, none⟩ = some (.int .u16 0) := cell_of hr
      have z5 : w4.cell? ⟨S + 1, 5, none⟩ = some (.slice none 0 0) := cell_of hr
      have HI4 := Lib.hid hi; have HB4 := Lib.hid hb; have HR4 := Lib.hid hr
      clear hi hb hr d5 f5
      go_wp2_with fail
      have hIF := six_sets2 (g := S + 1) (v0 := .int .i64 o.code) (v1 := .int .i64 o.res) (v2 := .int .i64 0) (v3 := .int .i64 0) (v4 := .int .u16 o.n) (v5 := .slice none 0 0) (HI.out _) (Nat.le_succ S) (by omega) HI4.out
      have hfin := six_sets (v0 := .int .i64 o.code) (v1 := .int .i64 o.res) (v2 := .int .i64 0) (v3 := .int .i64 0) (v4 := .int .u16 o.n) (v5 := .slice none 0 0) HR4.out _ rfl
      generalize World.setCell _ _ _ = wF at hfin hIF ⊢
      obtain ⟨hz, _, _, _⟩ := hfin
      have x0 : wF.cell? ⟨S + 1, 0, none⟩ = some (.int .i64 o.code) := cell_of hz
      have x1 : wF.cell? ⟨S + 1, 1, none⟩ = some (.int .i64 o.res) := cell_of hz
      have x2 : wF.cell? ⟨S + 1, 2, none⟩ = some (.int .i64 0) := cell_of hz
      have x3 : wF.cell? ⟨S + 1, 3, none⟩ = some (.int .i64 0) := cell_of hz
      have x4 : wF.cell? ⟨S + 1, 4, none⟩ = some (.int .u16 o.n) := cell_of hz
      have x5 : wF.cell? ⟨S + 1, 5, none⟩ = some (.slice none 0 0) := cell_of hz
      exact bodyPost_ret (v := .agg #[.int .i64 o.code, .int .i64 o.res, .int .i64 0, .int .i64 0, .int .u16 o.n, .slice none 0 0]) (by simp [results, Tryz.results35, go_sem, x0, x1, x2, x3, x4, x5]; done) rfl ⟨rfl, hIF⟩
/-- The same for a fact that every call keeps. -/
theorem mapOp_any (I : World → Prop) (w : World) (o : Opn) (k : FuncId) (fi caps : Array Value) (hI : Inv w.heap.size I) (hw : I w) (ho : OkCode o.code) (he : ∀ (args : Array Value) (w : World), (callFunc k args).run Tryz.prog w = .ok (.enter k args) w) (hf : Keeps0 w.heap.size I k fi caps) :
    Calls Tryz.prog 35 #[.agg #[.int .i64 o.code, .int .i64 o.res, .int .i64 0, .int .i64 0, .int .u16 o.n, .slice none 0 0], .func (.func k) fi caps] w (fun e w' => e = .returned (.agg #[.int .i64 o.code, .int .i64 o.res, .int .i64 0, .int .i64 0, .int .u16 o.n, .slice none 0 0]) ∧ I w') := by
  exact mapOp_n (fun _ => I) w o k fi caps (fun _ => hI.two) hw ho he (fun c w1 _ h1 _ => hf w1 h1)
end Go.Proofs.YtnjdegjpmbdboaaGreat
