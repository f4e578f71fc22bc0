/- The law's plain part: the operations that are made; what is left of them. -/
import Derived.Test.YtnjdegjpmbdboaaGreatQ7
import Derived.Test.YtnjdegjpmbdboaaGreatRS
/- The remainder, and the shape of an operation, of the document's answer. -/
namespace Go.Proofs.YtnjdegjpmbdboaaGreat
open Go.RowKit
set_option linter.unusedVariables false
theorem mod12 (z : Int) : ∃ r : Nat, r < 12 ∧ (RowKit.wrap64 (z.tmod 12 + 12)).tmod 12 = (r : Int) := by
  have h1 : z.tmod 12 < 12 := Int.tmod_lt_of_pos z (by decide)
  have h2 : -12 < z.tmod 12 := Int.lt_tmod_of_pos z (by decide)
  generalize z.tmod 12 = k at h1 h2
  have h3 : RowKit.wrap64 (k + 12) = k + 12 := Go.IntWalk.wrap64_in _ ⟨by omega, by omega⟩
  rw [h3, Int.tmod_eq_emod_of_nonneg (by omega)]
  exact ⟨((k + 12) % 12).toNat, by omega, by omega⟩
set_option maxRecDepth 100000 in
set_option maxHeartbeats 4000000 in
theorem mod_any (w : World) (z : Int) : Calls Tryz.prog 5 #[.int .i64 z, .int .i64 12] w (fun e w' => w' = w ∧ ∃ r : Nat, r < 12 ∧ e = .returned (.int .i64 r)) := by
  go_enter Tryz.func5, Tryz.ntmps5
  go_wp2_with fail
  go_ret
  refine ⟨rfl, ?_⟩
  obtain ⟨r, hr, h⟩ := mod12 z
  exact ⟨r, hr, by rw [h]; rfl⟩
set_option maxRecDepth 100000 in
set_option maxHeartbeats 8000000 in
theorem shape_any (w : World) (c : Int) (h : OkCode c) : Calls Tryz.prog 6 #[.int .i64 c] w (fun e w' => Low w.heap.size w w' ∧ ∃ a b n, e = .returned (.agg #[.bool true, .bool (opRes c), .bool a, .bool b, .bool n])) := by
  simp only [OkCode, List.mem_cons, List.not_mem_nil, or_false] at h
  rcases h with rfl | rfl | rfl | rfl | rfl | rfl | rfl | rfl | rfl | rfl | rfl | rfl
  · go_enter Tryz.func6, Tryz.ntmps6
    go_wp2
    exact bodyPost_ret (v := .agg #[.bool true, .bool true, .bool true, .bool false, .bool false]) (by simp [results, Tryz.results6, go_sem]; done) rfl ⟨(Low.refl _ _).alloc (Nat.le_refl _) _, true, false, false, rfl⟩
  · go_enter Tryz.func6, Tryz.ntmps6
    go_wp2
    exact bodyPost_ret (v := .agg #[.bool true, .bool true, .bool true, .bool true, .bool false]) (by simp [results, Tryz.results6, go_sem]; done) rfl ⟨(Low.refl _ _).alloc (Nat.le_refl _) _, true, true, false, rfl⟩
  · go_enter Tryz.func6, Tryz.ntmps6
    go_wp2
    exact bodyPost_ret (v := .agg #[.bool true, .bool true, .bool true, .bool false, .bool false]) (by simp [results, Tryz.results6, go_sem]; done) rfl ⟨(Low.refl _ _).alloc (Nat.le_refl _) _, true, false, false, rfl⟩
  · go_enter Tryz.func6, Tryz.ntmps6
    go_wp2
    exact bodyPost_ret (v := .agg #[.bool true, .bool true, .bool true, .bool false, .bool false]) (by simp [results, Tryz.results6, go_sem]; done) rfl ⟨(Low.refl _ _).alloc (Nat.le_refl _) _, true, false, false, rfl⟩
  · go_enter Tryz.func6, Tryz.ntmps6
    go_wp2
    exact bodyPost_ret (v := .agg #[.bool true, .bool false, .bool true, .bool true, .bool false]) (by simp [results, Tryz.results6, go_sem]; done) rfl ⟨(Low.refl _ _).alloc (Nat.le_refl _) _, true, true, false, rfl⟩
  · go_enter Tryz.func6, Tryz.ntmps6
    go_wp2
    exact bodyPost_ret (v := .agg #[.bool true, .bool false, .bool true, .bool true, .bool false]) (by simp [results, Tryz.results6, go_sem]; done) rfl ⟨(Low.refl _ _).alloc (Nat.le_refl _) _, true, true, false, rfl⟩
  · go_enter Tryz.func6, Tryz.ntmps6
    go_wp2
    exact bodyPost_ret (v := .agg #[.bool true, .bool true, .bool true, .bool false, .bool true]) (by simp [results, Tryz.results6, go_sem]; done) rfl ⟨(Low.refl _ _).alloc (Nat.le_refl _) _, true, false, true, rfl⟩
  · go_enter Tryz.func6, Tryz.ntmps6
    go_wp2
    exact bodyPost_ret (v := .agg #[.bool true, .bool true, .bool true, .bool false, .bool true]) (by simp [results, Tryz.results6, go_sem]; done) rfl ⟨(Low.refl _ _).alloc (Nat.le_refl _) _, true, false, true, rfl⟩
  · go_enter Tryz.func6, Tryz.ntmps6
    go_wp2
    exact bodyPost_ret (v := .agg #[.bool true, .bool true, .bool false, .bool false, .bool true]) (by simp [results, Tryz.results6, go_sem]; done) rfl ⟨(Low.refl _ _).alloc (Nat.le_refl _) _, false, false, true, rfl⟩
  · go_enter Tryz.func6, Tryz.ntmps6
    go_wp2
    exact bodyPost_ret (v := .agg #[.bool true, .bool false, .bool true, .bool false, .bool true]) (by simp [results, Tryz.results6, go_sem]; done) rfl ⟨(Low.refl _ _).alloc (Nat.le_refl _) _, true, false, true, rfl⟩
  · go_enter Tryz.func6, Tryz.ntmps6
    go_wp2
    exact bodyPost_ret (v := .agg #[.bool true, .bool false, .bool false, .bool false, .bool false]) (by simp [results, Tryz.results6, go_sem]; done) rfl ⟨(Low.refl _ _).alloc (Nat.le_refl _) _, false, false, false, rfl⟩
  · go_enter Tryz.func6, Tryz.ntmps6
    go_wp2
    exact bodyPost_ret (v := .agg #[.bool true, .bool false, .bool false, .bool false, .bool false]) (by simp [results, Tryz.results6, go_sem]; done) rfl ⟨(Low.refl _ _).alloc (Nat.le_refl _) _, false, false, false, rfl⟩
end Go.Proofs.YtnjdegjpmbdboaaGreat
namespace Go.Proofs.YtnjdegjpmbdboaaGreat
open Go.RowKit
set_option linter.unusedVariables false
theorem Low.frame {w w' : World} (h : Low w.heap.size w w') (may : MemPlace → Prop) : w.keptBut w' may := by
  refine ⟨h.os, h.out, fun i hi => ?_⟩
  rw [h.block i hi]
  split <;> simp_all
theorem kept_cell {w w' : World} (hk : w.keptBut w' (fun _ => False)) {g j : Nat} {v : Value} (hc : w.cell? ⟨g, j, none⟩ = some v) : w'.cell? ⟨g, j, none⟩ = some v := (hk.cell (cell_lt hc) (fun f => f)).trans hc
/-- The codes that the kinds select. -/
def lawCodes : Array Value := #[.int .i64 18, .int .i64 19, .int .i64 20, .int .i64 21, .int .i64 22, .int .i64 23, .int .i64 24, .int .i64 25, .int .i64 27, .int .i64 8, .int .i64 3, .int .i64 26]
theorem codes_at (r : Nat) (hr : r < 12) : ∃ c, lawCodes[r]? = some (.int .i64 c) ∧ OkCode c := by
  match r, hr with
  | 0, _ => exact ⟨18, rfl, by unfold OkCode; decide⟩
  | 1, _ => exact ⟨19, rfl, by unfold OkCode; decide⟩
  | 2, _ => exact ⟨20, rfl, by unfold OkCode; decide⟩
  | 3, _ => exact ⟨21, rfl, by unfold OkCode; decide⟩
  | 4, _ => exact ⟨22, rfl, by unfold OkCode; decide⟩
  | 5, _ => exact ⟨23, rfl, by unfold OkCode; decide⟩
  | 6, _ => exact ⟨24, rfl, by unfold OkCode; decide⟩
  | 7, _ => exact ⟨25, rfl, by unfold OkCode; decide⟩
  | 8, _ => exact ⟨27, rfl, by unfold OkCode; decide⟩
  | 9, _ => exact ⟨8, rfl, by unfold OkCode; decide⟩
  | 10, _ => exact ⟨3, rfl, by unfold OkCode; decide⟩
  | 11, _ => exact ⟨26, rfl, by unfold OkCode; decide⟩
/-- What stands of the operations that have been made. -/
structure Made (l : List Opn) : Prop where
  ok : ∀ o ∈ l, OkOp o
  no : ∀ o ∈ l, NOk o
  inc : Inc l
  top : ∀ o ∈ l, o.res ≤ l.length
theorem Made.nil : Made [] := ⟨by simp, by simp, by simp [Inc], by simp⟩
theorem Made.snoc {l : List Opn} {o : Opn} (h : Made l) (ho : OkOp o) (hn : NOk o) (hr : o.res = (l.length : Nat) + 1 ∨ o.res = -1) : Made (l ++ [o]) := by
  refine ⟨fun x hx => ?_, fun x hx => ?_, ?_, fun x hx => ?_⟩
  · rcases List.mem_append.1 hx with hx | hx
    · exact h.ok x hx
    · rw [List.mem_singleton] at hx; subst hx; exact ho
  · rcases List.mem_append.1 hx with hx | hx
    · exact h.no x hx
    · rw [List.mem_singleton] at hx; subst hx; exact hn
  · unfold Inc
    rw [List.pairwise_append]
    refine ⟨h.inc, List.pairwise_singleton _ _, fun a ha b hb => ?_⟩
    rw [List.mem_singleton] at hb
    subst hb
    intro _ hp
    have := h.top a ha
    omega
  · rw [List.length_append, List.length_singleton]
    rcases List.mem_append.1 hx with hx | hx
    · have := h.top x hx; omega
    · rw [List.mem_singleton] at hx; subst hx; omega
theorem kept_renum (l : List Opn) (k k' : Nat) : (renum (kept (renum l k)) k').map (fun o => o.code) = (kept l).map (fun o => o.code) := by
  have h1 : (renum (kept (renum l k)) k').map (fun o => o.code) = (kept (renum l k)).map (fun o => o.code) := by
    have := congrArg (List.map (fun p : Int × Int => p.1)) (renum_codes (kept (renum l k)) k')
    simpa [List.map_map, Function.comp_def] using this
  rw [h1]
  unfold kept
  have h2 : ∀ (a : List Opn), (a.filter fun o => o.code != 3).map (fun o => o.code) = (a.map fun o => o.code).filter fun c => c != 3 := fun a => by
    induction a with
    | nil => rfl
    | cons o a ih => by_cases h : o.code = 3 <;> simp [h, ih]
  rw [h2, h2]
  have h3 : (renum l k).map (fun o => o.code) = l.map (fun o => o.code) := by
    have := congrArg (List.map (fun p : Int × Int => p.1)) (renum_codes l k)
    simpa [List.map_map, Function.comp_def] using this
  rw [h3]
theorem kept_renum_length (l : List Opn) (k k' : Nat) : (renum (kept (renum l k)) k').length = (kept l).length := by
  have := congrArg List.length (kept_renum l k k')
  simpa using this
/-- The operation that is compared. -/
theorem kept_at {l : List Opn} {q : Nat} {o : Opn} (ho : l[q]? = some o) (h3 : ¬ o.code = 3) (k k' : Nat) : ∃ o', (renum (kept (renum l k)) k')[(kept (l.take q)).length]? = some o' ∧ o'.code = o.code := by
  have hq := (List.getElem?_eq_some_iff.1 ho).1
  have hsplit : kept l = kept (l.take q) ++ o :: kept (l.drop (q + 1)) := by
    have h1 : l = l.take q ++ o :: l.drop (q + 1) := by
      have h2 := List.getElem?_eq_some_iff.1 ho
      have h7 := List.drop_eq_getElem_cons hq
      rw [h2.2] at h7
      rw [← h7, List.take_append_drop]
    have h4 : kept l = kept (l.take q ++ o :: l.drop (q + 1)) := congrArg kept h1
    rw [h4]
    unfold kept
    rw [List.filter_append, List.filter_cons]
    simp [h3]
  have h5 : ((renum (kept (renum l k)) k').map (fun o => o.code))[(kept (l.take q)).length]? = some o.code := by
    rw [kept_renum, hsplit]
    simp
  rw [List.getElem?_map] at h5
  cases h6 : (renum (kept (renum l k)) k')[(kept (l.take q)).length]? with
  | none => rw [h6] at h5; cases h5
  | some o' => rw [h6] at h5; exact ⟨o', rfl, Option.some.inj h5⟩
theorem kept_take {l : List Opn} {q : Nat} {o : Opn} (ho : l[q]? = some o) : (kept (l.take (q + 1))).length = if o.code = 3 then (kept (l.take q)).length else (kept (l.take q)).length + 1 := by
  rw [take_snoc ho, kept_snoc]
  split <;> simp
end Go.Proofs.YtnjdegjpmbdboaaGreat
