/- The graph's function: small things. -/
import Derived.Test.YtnjdegjpmbdboaaGreatQQ
namespace Go.Proofs.YtnjdegjpmbdboaaGreat
open Go.RowKit
set_option linter.unusedVariables false
set_option maxRecDepth 100000 in
set_option maxHeartbeats 8000000 in
theorem len_zero (w : World) : Calls Tryz.prog 132 #[.int .u64 0] w (fun e w' => e = .returned (.int .i64 0) ∧ w' = w) := by
  go_enter Tryz.func132, Tryz.ntmps132
  go_wp2_with fail
  go_ret
  exact ⟨by kernel_rfl, rfl⟩
set_option maxRecDepth 100000 in
set_option maxHeartbeats 8000000 in
theorem Len_zero (w : World) : Calls Tryz.prog 94 #[.int .u64 0] w (fun e w' => e = .returned (.int .i64 0) ∧ w' = w) := by
  go_enter Tryz.func94, Tryz.ntmps94
  go_wp2_with (first
    | (go_at_call 132; with_reducible refine (len_zero _).mono ?_; rintro e w6 ⟨rfl, rfl⟩))
  go_ret
  exact ⟨rfl, rfl⟩
set_option maxRecDepth 100000 in
set_option maxHeartbeats 8000000 in
theorem insert_nil (w : World) (fv : Value) : Calls Tryz.prog 123 #[.slice none 0 0, .int .i64 0, .int .i64 0, fv] w (fun e w' => e = .returned (.tuple #[]) ∧ w' = w) := by
  go_enter Tryz.func123, Tryz.ntmps123
  go_wp2_with fail
  go_loopw [8] (fun i wr => i = .int .i64 1 ∧ wr = w) (fun _ _ => 0)
  case atStart => exact ⟨rfl, rfl⟩
  case round =>
    obtain ⟨rfl, rfl⟩ := hrel
    go_wp2_with fail
    go_end0
    exact ⟨rfl, rfl⟩
set_option maxRecDepth 100000 in
set_option maxHeartbeats 8000000 in
theorem pdq_nil (w : World) (x fv : Value) : Calls Tryz.prog 93 #[.slice none 0 0, .int .i64 0, .int .i64 0, x, fv] w (fun e w' => e = .returned (.tuple #[]) ∧ w' = w) := by
  go_enter Tryz.func93, Tryz.ntmps93
  go_wp2_with fail
  go_loopw [1, 2] (fun a b wr => a = .int .i64 0 ∧ b = .int .i64 0 ∧ wr = w) (fun _ _ _ => 0)
  case atStart => exact ⟨rfl, rfl, rfl⟩
  case round =>
    obtain ⟨rfl, rfl, rfl⟩ := hrel
    go_wp2_with (first
      | (go_at_call 123; with_reducible refine (insert_nil _ _).mono ?_; rintro e w6 ⟨rfl, rfl⟩))
    first
      | (go_ret; exact ⟨rfl, rfl⟩)
      | exact bodyPost_ret (v := .tuple #[]) (by simp [results, Tryz.results93, go_sem]; done) rfl ⟨rfl, rfl⟩
      | exact bodyPost_ret (v := .tuple #[]) rfl rfl ⟨rfl, rfl⟩
set_option maxRecDepth 100000 in
set_option maxHeartbeats 8000000 in
theorem sort_nil (w : World) (fv : Value) : Calls Tryz.prog 65 #[.slice none 0 0, fv] w (fun e w' => e = .returned (.tuple #[]) ∧ w' = w) := by
  go_enter Tryz.func65, Tryz.ntmps65
  go_wp2_with (first
    | (go_at_call 94; with_reducible refine (Len_zero _).mono ?_; rintro e w6 ⟨rfl, rfl⟩)
    | (go_at_call 93; with_reducible refine (pdq_nil _ _ _).mono ?_; rintro e w6 ⟨rfl, rfl⟩))
  go_end0
  exact ⟨rfl, rfl⟩
set_option maxRecDepth 100000 in
set_option maxHeartbeats 8000000 in
theorem index_nil (w : World) (fv : Value) : Calls Tryz.prog 89 #[.slice none 0 0, fv] w (fun e w' => e = .returned (.int .i64 (-1)) ∧ w' = w) := by
  go_enter Tryz.func89, Tryz.ntmps89
  go_wp2_with fail
  go_loopw [8] (fun i wr => i = .int .i64 0 ∧ wr = w) (fun _ _ => 0)
  case atStart => exact ⟨rfl, rfl⟩
  case round =>
    obtain ⟨rfl, rfl⟩ := hrel
    go_wp2_with fail
    go_ret
    exact ⟨rfl, rfl⟩
set_option maxRecDepth 100000 in
set_option maxHeartbeats 8000000 in
theorem delete_nil (w : World) (fv : Value) : Calls Tryz.prog 56 #[.slice none 0 0, fv] w (fun e w' => e = .returned (.slice none 0 0) ∧ w' = w) := by
  go_enter Tryz.func56, Tryz.ntmps56
  go_wp2_with (first
    | (go_at_call 89; with_reducible refine (index_nil _ _).mono ?_; rintro e w6 ⟨rfl, rfl⟩))
  go_ret
  exact ⟨rfl, rfl⟩
/-- A map of booleans, whatever it holds, and the cell that holds it. -/
def Used (z um : Nat) (w : World) : Prop := (∃ m, IMap w um m) ∧ w.heap[z]? = some (.cells #[.map (some um)] 94 (0, 0))
theorem Used.lt {z um : Nat} {w : World} (h : Used z um w) : um < w.heap.size := by
  obtain ⟨⟨m, hm⟩, _⟩ := h
  exact hm.lt
theorem Used.ne {z um : Nat} {w : World} (h : Used z um w) : z ≠ um := by
  rintro rfl
  obtain ⟨⟨m, ⟨es, cl, hg, _⟩⟩, h2⟩ := h
  rw [hg] at h2; cases h2
theorem Used.low {z um S : Nat} {w w' : World} (hz : z < S) (hu : um < S) (h : Used z um w) (hl : Low S w w') : Used z um w' := by
  obtain ⟨⟨m, hm⟩, h2⟩ := h
  exact ⟨⟨m, hm.keep (hl.block um hu)⟩, (hl.block z hz).trans h2⟩
theorem enters63 : ∀ (args : Array Value) (w : World), (callFunc 63 args).run Tryz.prog w = .ok (.enter 63 args) w := enters_body Tryz.func63 (by kernel_rfl) rfl
set_option maxRecDepth 100000 in
set_option maxHeartbeats 8000000 in
theorem used_note (w : World) (z um : Nat) (hu : Used z um w) (v : Int) : Calls Tryz.prog 63 #[.int .i64 v, .pointer (some ⟨z, 0, none⟩)] w (fun e w' => e = .returned (.int .i64 v) ∧ Chs [um] w w' ∧ Used z um w' ∧ w'.heap.size = w.heap.size) := by
  have hz : w.cell? ⟨z, 0, none⟩ = some (.map (some um)) := cell_of hu.2
  have hne := hu.ne
  have hlt := hu.lt
  obtain ⟨⟨m, hm⟩, h2⟩ := hu
  obtain ⟨es, cl, hup, he⟩ := update_i (P := Tryz.prog) (t := 94) Tryz.underlying94 Tryz.underlying3 hm (k := v) (.bool true)
  have HF := Lib.hid (show Chs [um] w (Go.ChangeMaps.setBlock w um (.map es cl)) ∧ Used z um (Go.ChangeMaps.setBlock w um (.map es cl)) ∧ (Go.ChangeMaps.setBlock w um (.map es cl)).heap.size = w.heap.size from ⟨Chs.setBlock _ (List.mem_singleton.2 rfl) _, ⟨⟨_, es, cl, setBlock_at _ hlt, he⟩, (setBlock_other _ hne).trans h2⟩, by simp [Go.ChangeMaps.setBlock]⟩)
  clear hm he h2 hne
  go_enter Tryz.func63, Tryz.ntmps63
  go_wp2_with fail
  go_ret
  exact ⟨rfl, HF.out⟩
theorem used_keeps (wa : World) (z um : Nat) (hz : z < wa.heap.size) (hu : um < wa.heap.size) : Keeps0 wa.heap.size (fun wx => Chs [um] wa wx ∧ Used z um wx) 63 #[] #[.pointer (some ⟨z, 0, none⟩)] := fun w1 h1 => by
  refine (used_note w1 z um h1.2 0).mono ?_
  rintro e w2 ⟨rfl, hc, hu2, hsz⟩
  exact ⟨rfl, ⟨h1.1.trans hc, hu2⟩, hc.size, fun g hg hg2 => hc.block g hg2 (by simp; omega)⟩
/-- A row of operations is appended to nothing. -/
theorem append_row (w : World) (A : Option Addr) (n c : Nat) (l : List Opn) (h : OpsAt w A n c l) (hn : n ≤ 12) (ty : TypeId) :
    ∃ A' c' w', (Builtin.append_ #[27, 27] ty #[.slice none 0 0, .slice A n c]).run Tryz.prog w = .ok (.slice A' n c') w' ∧ Low w.heap.size w w' ∧ OpsAt w' A' n c' l := by
  cases A with
  | none =>
    have hl : l = [] := by
      cases l with
      | nil => rfl
      | cons o l =>
        obtain ⟨g, cs, e, _⟩ := h.2 0 o rfl
        cases e
    subst hl
    obtain rfl : 0 = n := h.1
    have h33 : ∀ u, (sizeOf 33).run Tryz.prog u = .ok 6 u := fun u => by kernel_rfl
    refine ⟨none, 0, w, ?_, Low.refl _ _, rfl, by simp⟩
    simp [Builtin.append_, Builtin.lenOf, Builtin.firstCells, run_underlying Tryz.underlying27, h33]
  | some a =>
    obtain ⟨ti, z, hi, hz, hsize, hby, hzs⟩ := ap27.info
    have hrow : ∀ j u, (rowOf l)[j]? = some u → w.cell? (a.add j) = some u := fun j u hj => by
      cases l with
      | nil => simp [rowOf] at hj
      | cons o l' =>
        obtain ⟨g, cs, e, _⟩ := h.2 0 o rfl
        cases e
        exact h.row j u hj
    obtain ⟨v', w', hrun, h2, h3, _⟩ := run_append_own (P := Tryz.prog) w w.heap.size 27 ty 33 ti z 6 64 ap27.ht hi hz hsize hby hzs ap27.pos (.slice none 0 0) 0 [] (Own.nil _ _ _ _) a n c (rowOf l) (by rw [rowOf_length, h.1]) hrow (rowOf_one l) (by have : maxLen = 9223372036854775807 := rfl; omega) (by omega) (Nat.le_refl _)
    have h2' : Own w' w.heap.size 33 6 v' n (rowOf l) := by have := h2; rw [Nat.zero_add, List.nil_append] at this; exact this
    obtain ⟨A', c', rfl, ho⟩ := OpsAt.of_own h2'
    exact ⟨A', c', w', hrun, ⟨h3.os, h3.output, h3.size, fun g hg => h3.block g hg (by simp [Value.ownBlock])⟩, ho⟩
end Go.Proofs.YtnjdegjpmbdboaaGreat
