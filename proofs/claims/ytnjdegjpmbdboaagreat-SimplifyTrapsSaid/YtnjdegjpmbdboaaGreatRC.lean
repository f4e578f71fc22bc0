/- ir's checker: what an operation uses. -/
import Derived.Test.YtnjdegjpmbdboaaGreatQZ
/- ir's checker: what operations and terminators use. -/
namespace Go.Proofs.YtnjdegjpmbdboaaGreat
open Go.RowKit
set_option linter.unusedVariables false
/-- A row of values 0. -/
def Zeros (w : World) (v : Value) : Prop := ∃ A n c, v = .slice A n c ∧ n ≤ 2 ∧ (n = 0 ∨ ∃ g cs, A = some ⟨g, 0, none⟩ ∧ w.heap[g]? = some (.cells cs 3 (0, 0)) ∧ ∀ j, j < n → cs[j]? = some (.int .i64 0))
theorem Zeros.of_own {w : World} {base n : Nat} {v : Value} (h : Own w base 3 1 v n (List.replicate n (.int .i64 0))) (hn : n ≤ 2) : Zeros w v := by
  rcases h.form with ⟨rfl, rfl⟩ | ⟨g, c, cs, rfl, hb, hg, hc⟩
  · exact ⟨none, 0, 0, rfl, by omega, .inl rfl⟩
  · refine ⟨_, n, c, rfl, hn, .inr ⟨g, cs, rfl, hg, fun j hj => ?_⟩⟩
    rw [← cell_of hg]
    exact h.cell (by rw [List.getElem?_replicate]; simp [hj])
set_option maxRecDepth 100000 in
set_option maxHeartbeats 4000000 in
theorem ends_any (w : World) (k a : Int) (T : Option Addr) (tc : Nat) (h : (k = 4 ∧ a = -1) ∨ (k = 5 ∧ a = 0)) : Calls Tryz.prog 104 #[.agg #[.int .i64 k, .int .i64 a, .slice T 0 tc]] w (fun e w' => Low w.heap.size w w' ∧ e = .returned (.slice none 0 0)) := by
  rcases h with ⟨rfl, rfl⟩ | ⟨rfl, rfl⟩
  all_goals
    go_enter Tryz.func104, Tryz.ntmps104
    go_wp2_with fail
    obtain ⟨w1, hw1⟩ : ∃ u, u = w := ⟨_, rfl⟩
    go_loopw [32, 3] (fun i s wr => i = .int .i64 0 ∧ s = .slice none 0 0 ∧ Low w.heap.size w wr) (fun _ _ _ => 0)
    case atStart => exact ⟨rfl, rfl, (Low.refl _ _).alloc (Nat.le_refl _) _⟩
    case round =>
      obtain ⟨rfl, rfl, hl⟩ := hrel
      go_wp2_with fail
      go_ret
      exact ⟨hl, rfl⟩
set_option maxRecDepth 100000 in
set_option maxHeartbeats 4000000 in
theorem term_any (w : World) (cp : Value) (k a : Int) (T : Option Addr) (tc : Nat) (h : (k = 4 ∧ a = -1) ∨ (k = 5 ∧ a = 0)) : Calls Tryz.prog 137 #[cp, .agg #[.int .i64 k, .int .i64 a, .slice T 0 tc]] w (fun e w' => Low w.heap.size w w' ∧ e = .returned (.bool true)) := by
  have hl := (Low.refl _ w).alloc (Nat.le_refl _) (.cells #[.int .i64 k, .int .i64 a, .slice T 0 tc] 26)
  have hb := heap_new w (.cells #[.int .i64 k, .int .i64 a, .slice T 0 tc] 26)
  rcases h with ⟨rfl, rfl⟩ | ⟨rfl, rfl⟩
  all_goals
    go_enter Tryz.func137, Tryz.ntmps137
    go_upto_region 1 with fail
    generalize w.heap.size = t3 at hb ⊢
    generalize w.alloc _ = w1 at hb hl ⊢
    have y0 := cell_of (j := 0) hb
    have y1 := cell_of (j := 1) hb
    have y2 := cell_of (j := 2) hb
    simp only [List.getElem?_toArray, List.getElem?_cons_zero, List.getElem?_cons_succ] at y0 y1 y2
    clear hb
    go_wp2_with fail
    go_loopw [10] (fun i wr => i = .int .i64 0 ∧ wr = w1) (fun _ _ => 0)
    case atStart => exact ⟨rfl, rfl⟩
    case round =>
      obtain ⟨rfl, rfl⟩ := hrel
      go_wp2_with fail
      go_ret
      exact ⟨hl, rfl⟩
end Go.Proofs.YtnjdegjpmbdboaaGreat
/- ir's checker: a definition is recorded. -/
namespace Go.Proofs.YtnjdegjpmbdboaaGreat
open Go.RowKit
set_option linter.unusedVariables false
/-- A map with integer keys, its entries' births below its clock. -/
def SMap (w : World) (g : Nat) (l : List (Int × Value)) : Prop := ∃ es clock, w.heap[g]? = some (.map es clock) ∧ Ents l es ∧ ∀ e ∈ es.toList, e.born < clock
/-- An entry has been made, and is not laid yet. -/
def Pend (w : World) (g : Nat) (st : Int) (l : List (Int × Value)) (k : Int) : Prop := ∃ es c clock, w.heap[g]? = some (.map (es.push ⟨.int .i64 k, .int .i64 0, c⟩) clock) ∧ Ents l es ∧ (∀ e ∈ es.toList, e.born < c) ∧ c < clock ∧ st = (c : Nat)
theorem SMap.imap {w : World} {g : Nat} {l : List (Int × Value)} (h : SMap w g l) : IMap w g l := by
  obtain ⟨es, cl, a, b, _⟩ := h
  exact ⟨es, cl, a, b⟩
theorem SMap.keep {w w' : World} {g : Nat} {l : List (Int × Value)} (h : SMap w g l) (hk : w'.heap[g]? = w.heap[g]?) : SMap w' g l := by
  obtain ⟨es, cl, a, b⟩ := h
  exact ⟨es, cl, hk.trans a, b⟩
theorem Pend.keep {w w' : World} {g : Nat} {st k : Int} {l : List (Int × Value)} (h : Pend w g st l k) (hk : w'.heap[g]? = w.heap[g]?) : Pend w' g st l k := by
  obtain ⟨es, c, cl, a, b⟩ := h
  exact ⟨es, c, cl, hk.trans a, b⟩
theorem mapEntry_i {w : World} {g : Nat} {l : List (Int × Value)} {k : Int} (h : SMap w g l) (hk : getI l k = none) : ∃ o st, (Instr.mapEntry 53 (.map (some g)) (.int .i64 k)).run Tryz.prog w = .ok (.tuple #[.int .i64 0, .int .i64 st]) (Go.ChangeMaps.setBlock w g o) ∧ Pend (Go.ChangeMaps.setBlock w g o) g st l k := by
  obtain ⟨es, cl, hg, he, hb⟩ := h
  have hlt := heap_lt hg
  obtain ⟨r, r1, r2, r3, _⟩ := findKey_i (P := Tryz.prog) (w := w) (k := k) Tryz.underlying3 he
  have hr : r = none := by
    cases r with
    | none => rfl
    | some p => rw [hk] at r2; simp at r2
  subst hr
  have hz : ∀ u, (zeroValue 3).run Tryz.prog u = .ok (.int .i64 0) u := fun u => by kernel_rfl
  refine ⟨.map (es.push ⟨.int .i64 k, .int .i64 0, cl⟩) (cl + 1), (cl : Nat), ?_, es, cl, cl + 1, setBlock_at _ hlt, he, hb, Nat.lt_succ_self _, rfl⟩
  simp [Instr.mapEntry, run_underlying Tryz.underlying53, MapKept.run_getObj_map hg, checkKey_i Tryz.underlying3, r1, hz, MapKept.run_setObj_map _ hg, Go.ChangeMaps.setBlock, goInt]
theorem entryStore_i {w : World} {g : Nat} {l : List (Int × Value)} {k st : Int} (h : Pend w g st l k) (v : Value) : ∃ o, (Instr.entryStore 53 (.map (some g)) (.int .i64 st) v).run Tryz.prog w = .ok () (Go.ChangeMaps.setBlock w g o) ∧ SMap (Go.ChangeMaps.setBlock w g o) g (l ++ [(k, v)]) := by
  obtain ⟨es, c, cl, hg, he, hb, hc, rfl⟩ := h
  have hlt := heap_lt hg
  have hf : (es.push ⟨.int .i64 k, .int .i64 0, c⟩).findIdx? (fun e => (e.born : Int) == ((c : Nat) : Int)) = some es.size := by
    rw [Array.findIdx?_push]
    have h1 : es.findIdx? (fun e => (e.born : Int) == ((c : Nat) : Int)) = none := by
      rw [Array.findIdx?_eq_none_iff]
      intro e he
      have := hb e (by simpa using he)
      simp
      omega
    rw [h1]
    simp
  have hm : (es.push ⟨.int .i64 k, .int .i64 0, c⟩).modify es.size (fun e => { e with val := v }) = es.push ⟨.int .i64 k, v, c⟩ := by
    apply Array.ext_getElem?
    intro i
    rw [Array.getElem?_modify, Array.getElem?_push, Array.getElem?_push]
    by_cases hi : i = es.size
    · subst hi; simp
    · have : ¬ es.size = i := fun h => hi h.symm
      simp [hi, this]
  refine ⟨.map (es.push ⟨.int .i64 k, v, c⟩) cl, ?_, es.push ⟨.int .i64 k, v, c⟩, cl, setBlock_at _ hlt, ?_, ?_⟩
  · simp [Instr.entryStore, MapKept.run_getObj_map hg, asInt, asIntOf, hf, hm, MapKept.run_setObj_map _ hg, Go.ChangeMaps.setBlock]
  · unfold Ents at *
    simp [he]
  · intro e hm2
    simp at hm2
    rcases hm2 with hm2 | rfl
    · have := hb e (by simpa using hm2)
      omega
    · exact hc
set_option maxRecDepth 100000 in
set_option maxHeartbeats 4000000 in
theorem define_any (w : World) (c bm am : Nat) (v b a : Int) (l l2 : List (Int × Value)) (cs : Array Value) (hc : w.heap[c]? = some (.cells cs 137 (0, 0))) (h7 : cs[7]? = some (.map (some bm))) (h8 : cs[8]? = some (.map (some am))) (hne : bm ≠ am) (hb : SMap w bm l) (ha : SMap w am l2) (hv : getI l v = none) (hv2 : getI l2 v = none) (h0 : 0 ≤ v) (hmax : v ≤ 65535) :
    Calls Tryz.prog 135 #[.pointer (some ⟨c, 0, none⟩), .int .i64 v, .int .i64 b, .int .i64 a] w (fun e w' => e = .returned (.bool true) ∧ Chs [bm, am] w w' ∧ SMap w' bm (l ++ [(v, .int .i64 b)]) ∧ SMap w' am (l2 ++ [(v, .int .i64 a)])) := by
  have hlk : (Instr.lookup 53 (.map (some bm)) (.int .i64 v) true).run Tryz.prog w = .ok (.tuple #[.int .i64 0, .bool false]) w := by
    have := lookup_i (P := Tryz.prog) (t := 53) Tryz.underlying53 Tryz.underlying3 hb.imap (k := v) (z := .int .i64 0) (by kernel_rfl) true
    rw [hv] at this
    exact this
  have y7 : w.cell? ⟨c, 7, none⟩ = some (.map (some bm)) := (cell_of hc).trans h7
  have y8 : w.cell? ⟨c, 8, none⟩ = some (.map (some am)) := (cell_of hc).trans h8
  have n0 : ¬ v < 0 := by omega
  have n1 : ¬ (65535 : Int) < v := by omega
  have HC := Lib.hid hc; have HB := Lib.hid hb; have HA := Lib.hid ha; have H7 := Lib.hid h7; have H8 := Lib.hid h8
  clear hc hb ha h7 h8
  go_enter Tryz.func135, Tryz.ntmps135
  go_upto_region 4 with fail
  have hSw : w.cell? ⟨c, 7, none⟩ = some (.map (some bm)) ∧ w.cell? ⟨c, 8, none⟩ = some (.map (some am)) := ⟨y7, y8⟩
  clear hlk n0 n1
  refine wp_region_noPanic ?_
  refine wp_region_held_drew (S := fun w' => w'.cell? ⟨c, 7, none⟩ = some (.map (some bm)) ∧ w'.cell? ⟨c, 8, none⟩ = some (.map (some am))) (by kernel_rfl) (by exact hSw) (fun hHeld => ?_)
  have cD : Chs [bm, am] w w.drew := (Chs.refl _ _).drew
  have hb0 : SMap w.drew bm l := HB.out.keep rfl
  have ha0 : SMap w.drew am l2 := HA.out.keep rfl
  have hc0 : w.drew.heap[c]? = some (.cells cs 137 (0, 0)) := HC.out
  clear hSw y7 y8
  generalize w.drew = wd at hHeld cD hb0 ha0 hc0 ⊢
  have hcb : c ≠ bm := by
    rintro rfl
    obtain ⟨es, cl, h, _⟩ := hb0
    rw [hc0] at h; cases h
  have hca : c ≠ am := by
    rintro rfl
    obtain ⟨es, cl, h, _⟩ := ha0
    rw [hc0] at h; cases h
  obtain ⟨o1, st1, hr1, hp1⟩ := mapEntry_i hb0 hv
  have hc1 := (setBlock_other o1 hcb).trans hc0
  have ha1 : SMap (Go.ChangeMaps.setBlock wd bm o1) am l2 := ha0.keep (setBlock_other o1 (Ne.symm hne))
  have c1 : Chs [bm, am] w (Go.ChangeMaps.setBlock wd bm o1) := cD.trans (Chs.setBlock _ (by simp) _)
  obtain ⟨w1, hw1⟩ : ∃ u, u = Go.ChangeMaps.setBlock wd bm o1 := ⟨_, rfl⟩
  rw [← hw1] at hr1 hp1 hc1 ha1 c1
  obtain ⟨o2, hr2, hs2⟩ := entryStore_i hp1 (.int .i64 b)
  have hc2 := (setBlock_other o2 hcb).trans hc1
  have ha2 : SMap (Go.ChangeMaps.setBlock w1 bm o2) am l2 := ha1.keep (setBlock_other o2 (Ne.symm hne))
  have c2 : Chs [bm, am] w (Go.ChangeMaps.setBlock w1 bm o2) := c1.trans (Chs.setBlock _ (by simp) _)
  obtain ⟨w2, hw2⟩ : ∃ u, u = Go.ChangeMaps.setBlock w1 bm o2 := ⟨_, rfl⟩
  rw [← hw2] at hr2 hs2 hc2 ha2 c2
  obtain ⟨o3, st3, hr3, hp3⟩ := mapEntry_i ha2 hv2
  have hc3 := (setBlock_other o3 hca).trans hc2
  have hs3 : SMap (Go.ChangeMaps.setBlock w2 am o3) bm (l ++ [(v, .int .i64 b)]) := hs2.keep (setBlock_other o3 hne)
  have c3 : Chs [bm, am] w (Go.ChangeMaps.setBlock w2 am o3) := c2.trans (Chs.setBlock _ (by simp) _)
  obtain ⟨w3, hw3⟩ : ∃ u, u = Go.ChangeMaps.setBlock w2 am o3 := ⟨_, rfl⟩
  rw [← hw3] at hr3 hp3 hc3 hs3 c3
  obtain ⟨o4, hr4, hs4⟩ := entryStore_i hp3 (.int .i64 a)
  have hc4 := (setBlock_other o4 hca).trans hc3
  have hs5 : SMap (Go.ChangeMaps.setBlock w3 am o4) bm (l ++ [(v, .int .i64 b)]) := hs3.keep (setBlock_other o4 hne)
  have c4 : Chs [bm, am] w (Go.ChangeMaps.setBlock w3 am o4) := c3.trans (Chs.setBlock _ (by simp) _)
  obtain ⟨w4, hw4⟩ : ∃ u, u = Go.ChangeMaps.setBlock w3 am o4 := ⟨_, rfl⟩
  rw [← hw4] at hr4 hs4 hc4 hs5 c4
  have hS1 : w1.cell? ⟨c, 7, none⟩ = some (.map (some bm)) ∧ w1.cell? ⟨c, 8, none⟩ = some (.map (some am)) := ⟨(cell_of hc1).trans H7.out, (cell_of hc1).trans H8.out⟩
  have hS2 : w2.cell? ⟨c, 7, none⟩ = some (.map (some bm)) ∧ w2.cell? ⟨c, 8, none⟩ = some (.map (some am)) := ⟨(cell_of hc2).trans H7.out, (cell_of hc2).trans H8.out⟩
  have hS3 : w3.cell? ⟨c, 7, none⟩ = some (.map (some bm)) ∧ w3.cell? ⟨c, 8, none⟩ = some (.map (some am)) := ⟨(cell_of hc3).trans H7.out, (cell_of hc3).trans H8.out⟩
  have hS4 : w4.cell? ⟨c, 7, none⟩ = some (.map (some bm)) ∧ w4.cell? ⟨c, 8, none⟩ = some (.map (some am)) := ⟨(cell_of hc4).trans H7.out, (cell_of hc4).trans H8.out⟩
  have HF := Lib.hid (And.intro c4 (And.intro hs5 hs4))
  clear hw1 hw2 hw3 hw4 hp1 hp3 hs2 hs3 hs4 hs5 c1 c2 c3 c4 hc0 hc1 hc2 hc3 hc4 ha0 ha1 ha2 hb0 cD hcb hca hv hv2
  refine take_at (i := 0) (v := ?_) rfl (by kernel_rfl) (by kernel_rfl) (by kernel_rfl) (fun _ _ _ h => h) (by rfl) ?_ (by assumption) ?_
  rotate_left
  · intro w' hSw; obtain ⟨s7, s8⟩ := hSw; go_simp; (try with_reducible rfl)
  (try simp only [Act.put, List.setIfInBounds_toArray, List.set_cons_zero, List.set_cons_succ])
  refine take_at (i := 1) (v := ?_) rfl (by kernel_rfl) (by kernel_rfl) (by kernel_rfl) (fun _ _ _ h => h) (by rfl) ?_ (by assumption) ?_
  rotate_left
  · intro w' hSw; obtain ⟨s7, s8⟩ := hSw; go_simp; (try with_reducible rfl)
  (try simp only [Act.put, List.setIfInBounds_toArray, List.set_cons_zero, List.set_cons_succ])
  refine take_at (i := 2) (v := ?_) rfl (by kernel_rfl) (by kernel_rfl) (by kernel_rfl) (fun _ _ _ h => h) (by rfl) ?_ (by assumption) ?_
  rotate_left
  · intro w' hSw; obtain ⟨s7, s8⟩ := hSw; go_simp; (try with_reducible rfl)
  (try simp only [Act.put, List.setIfInBounds_toArray, List.set_cons_zero, List.set_cons_succ])
  refine take_at (i := 3) (v := ?_) rfl (by kernel_rfl) (by kernel_rfl) (by kernel_rfl) (fun _ _ _ h => h) (by rfl) ?_ (by assumption) ?_
  rotate_left
  · intro w' hSw; obtain ⟨s7, s8⟩ := hSw; go_simp; (try with_reducible rfl)
  (try simp only [Act.put, List.setIfInBounds_toArray, List.set_cons_zero, List.set_cons_succ])
  refine take_at (i := 4) (v := ?_) rfl (by kernel_rfl) (by kernel_rfl) (by kernel_rfl) (fun _ _ _ h => h) (by rfl) ?_ (by assumption) ?_
  rotate_left
  · intro w' hSw; obtain ⟨s7, s8⟩ := hSw; go_simp; (try with_reducible rfl)
  (try simp only [Act.put, List.setIfInBounds_toArray, List.set_cons_zero, List.set_cons_succ])
  refine take_at (i := 5) (v := ?_) rfl (by kernel_rfl) (by kernel_rfl) (by kernel_rfl) (fun _ _ _ h => h) (by rfl) ?_ (by assumption) ?_
  rotate_left
  · intro w' hSw; obtain ⟨s7, s8⟩ := hSw; go_simp; (try with_reducible rfl)
  (try simp only [Act.put, List.setIfInBounds_toArray, List.set_cons_zero, List.set_cons_succ])
  refine take_at (i := 6) (v := ?_) rfl (by kernel_rfl) (by kernel_rfl) (by kernel_rfl) (fun _ _ _ h => h) (by rfl) ?_ (by assumption) ?_
  rotate_left
  · intro w' hSw; obtain ⟨s7, s8⟩ := hSw; go_simp; (try with_reducible rfl)
  (try simp only [Act.put, List.setIfInBounds_toArray, List.set_cons_zero, List.set_cons_succ])
  refine take_at (i := 7) (v := ?_) rfl (by kernel_rfl) (by kernel_rfl) (by kernel_rfl) (fun _ _ _ h => h) (by rfl) ?_ (by assumption) ?_
  rotate_left
  · intro w' hSw; obtain ⟨s7, s8⟩ := hSw; go_simp; (try with_reducible rfl)
  (try simp only [Act.put, List.setIfInBounds_toArray, List.set_cons_zero, List.set_cons_succ])
  refine take_at (i := 8) (v := ?_) rfl (by kernel_rfl) (by kernel_rfl) (by kernel_rfl) (fun _ _ _ h => h) (by rfl) ?_ (by assumption) ?_
  rotate_left
  · intro w' hSw; obtain ⟨s7, s8⟩ := hSw; go_simp; (try with_reducible rfl)
  (try simp only [Act.put, List.setIfInBounds_toArray, List.set_cons_zero, List.set_cons_succ])
  refine take_at (i := 9) (v := ?_) rfl (by kernel_rfl) (by kernel_rfl) (by kernel_rfl) (fun _ _ _ h => h) (by rfl) ?_ (by assumption) ?_
  rotate_left
  · intro w' hSw; obtain ⟨s7, s8⟩ := hSw; go_simp; (try with_reducible rfl)
  (try simp only [Act.put, List.setIfInBounds_toArray, List.set_cons_zero, List.set_cons_succ])
  refine take_at (i := 10) (v := ?_) rfl (by kernel_rfl) (by kernel_rfl) (by kernel_rfl) (fun _ _ _ h => h) (by rfl) ?_ (by assumption) ?_
  rotate_left
  · intro w' hSw; obtain ⟨s7, s8⟩ := hSw; go_simp; (try with_reducible rfl)
  (try simp only [Act.put, List.setIfInBounds_toArray, List.set_cons_zero, List.set_cons_succ])
  refine take_at (i := 11) (v := ?_) rfl (by kernel_rfl) (by kernel_rfl) (by kernel_rfl) (fun _ _ _ h => h) (by rfl) ?_ (by assumption) ?_
  rotate_left
  · intro w' hSw; obtain ⟨s7, s8⟩ := hSw; go_simp; (try with_reducible rfl)
  (try simp only [Act.put, List.setIfInBounds_toArray, List.set_cons_zero, List.set_cons_succ])
  refine wpAnyH_ready (rs := [12]) (by kernel_rfl) (by simp) ?_
  refine next_at (i := 12) rfl (fun KK hKK => ?_) AllReadyH.nil
  go_simp
  refine hKK.out _ _ (by exact hS1) (fun hHeld => ?_)
  clear hKK KK
  (try simp only [Act.put, List.setIfInBounds_toArray, List.set_cons_zero, List.set_cons_succ])
  refine take_at (i := 13) (v := ?_) rfl (by kernel_rfl) (by kernel_rfl) (by kernel_rfl) (fun _ _ _ h => h) (by rfl) ?_ (by assumption) ?_
  rotate_left
  · intro w' hSw; obtain ⟨s7, s8⟩ := hSw; go_simp; (try with_reducible rfl)
  (try simp only [Act.put, List.setIfInBounds_toArray, List.set_cons_zero, List.set_cons_succ])
  refine wpAnyH_ready (rs := [14]) (by kernel_rfl) (by simp) ?_
  refine next_at (i := 14) rfl (fun KK hKK => ?_) AllReadyH.nil
  go_simp
  refine hKK.out _ _ (by exact hS2) (fun hHeld => ?_)
  clear hKK KK
  (try simp only [Act.put, List.setIfInBounds_toArray, List.set_cons_zero, List.set_cons_succ])
  refine wpAnyH_ready (rs := [15]) (by kernel_rfl) (by simp) ?_
  refine next_at (i := 15) rfl (fun KK hKK => ?_) AllReadyH.nil
  go_simp
  refine hKK.out _ _ (by exact hS3) (fun hHeld => ?_)
  clear hKK KK
  (try simp only [Act.put, List.setIfInBounds_toArray, List.set_cons_zero, List.set_cons_succ])
  refine take_at (i := 16) (v := ?_) rfl (by kernel_rfl) (by kernel_rfl) (by kernel_rfl) (fun _ _ _ h => h) (by rfl) ?_ (by assumption) ?_
  rotate_left
  · intro w' hSw; obtain ⟨s7, s8⟩ := hSw; go_simp; (try with_reducible rfl)
  (try simp only [Act.put, List.setIfInBounds_toArray, List.set_cons_zero, List.set_cons_succ])
  refine wpAnyH_ready (rs := [17]) (by kernel_rfl) (by simp) ?_
  refine next_at (i := 17) rfl (fun KK hKK => ?_) AllReadyH.nil
  go_simp
  refine hKK.out _ _ (by exact hS4) (fun hHeld => ?_)
  clear hKK KK
  (try simp only [Act.put, List.setIfInBounds_toArray, List.set_cons_zero, List.set_cons_succ])
  refine wpAnyH_done (by kernel_rfl) ?_ _
  refine NoPanic.normal ?_
  (try go_wp2_with fail)
  go_ret
  exact ⟨rfl, HF.out⟩
end Go.Proofs.YtnjdegjpmbdboaaGreat
namespace Go.Proofs.YtnjdegjpmbdboaaGreat
open Go.RowKit
set_option linter.unusedVariables false
theorem app_nil {w : World} {ty : TypeId} {A : Option Addr} {n c : Nat} (h : n ≤ c) : (Builtin.append_ #[22, 22] ty #[.slice A n c, .slice none 0 0]).run Tryz.prog w = .ok (.slice A n c) w := by
  have h3 : ∀ u, (sizeOf 3).run Tryz.prog u = .ok 1 u := fun u => by kernel_rfl
  cases A with
  | none => simp [Builtin.append_, Builtin.lenOf, Builtin.firstCells, run_underlying Tryz.underlying22, h3, h]
  | some a => simp [Builtin.append_, Builtin.lenOf, Builtin.firstCells, run_underlying Tryz.underlying22, h3, h, storeCells]
theorem wpList_app_nil {ops : Array Oper} {rest : List Oper} {o : Oper} {a : Act} {w : World} {Q : Exit → Act → World → Prop} (hgd : o.guard = none) (s x : Operand) (ho : o.op = .call { callee := .builtin .append, args := #[s, x], argTypes := #[22, 22] })
    {A : Option Addr} {n c : Nat} (hs : a.eval s = .slice A n c) (hx : a.eval x = .slice none 0 0) (hn : n ≤ c) (h : wpList Tryz.prog ops Q rest (a.put o.dst (.slice A n c)) w) : wpList Tryz.prog ops Q (o :: rest) a w := by
  refine wpList_plain hgd fun K hK => ?_
  unfold Oper.wp execOp
  simp only [ho, resolve, invoke, builtin, Sem.run_bind, Sem.run_pure, Result.andThen_ok, List.map_toArray, List.map_cons, List.map_nil, hs, hx, app_nil hn]
  exact hK _ _ h
set_option maxRecDepth 100000 in
set_option maxHeartbeats 8000000 in
theorem uses_any (w : World) (o : Opn) (ho : OkCode o.code) : Calls Tryz.prog 103 #[.agg #[.int .i64 o.code, .int .i64 o.res, .int .i64 0, .int .i64 0, .int .u16 o.n, .slice none 0 0]] w (fun e w' => Low w.heap.size w w' ∧ ∃ v, e = .returned v ∧ Zeros w' v) := by
  have l1 : Low w.heap.size w (w.alloc (.cells #[.int .i64 o.code, .int .i64 o.res, .int .i64 0, .int .i64 0, .int .u16 o.n, .slice none 0 0] 33)) := (Low.refl _ w).alloc (Nat.le_refl _) _
  have a1 := heap_new w (.cells #[.int .i64 o.code, .int .i64 o.res, .int .i64 0, .int .i64 0, .int .u16 o.n, .slice none 0 0] 33)
  obtain ⟨xr, xa, xb, xn, hf⟩ : ∃ xr xa xb xn : Bool, ∀ u, Calls Tryz.prog 143 #[.int .i64 o.code] u (fun e w' => e = .returned (.tuple #[.agg #[.bool xr, .bool xa, .bool xb, .bool xn], .bool true]) ∧ Below u.heap.size u w') := ⟨_, _, _, _, fun u => fields_any u _ ho⟩
  go_enter Tryz.func103, Tryz.ntmps103
  go_upto_region 1 with fail
  obtain ⟨t1, ht1⟩ : ∃ t, t = w.heap.size := ⟨_, rfl⟩
  rw [← ht1] at a1 ⊢
  clear ht1
  generalize w.alloc (.cells #[.int .i64 o.code, .int .i64 o.res, .int .i64 0, .int .i64 0, .int .u16 o.n, .slice none 0 0] 33) = w1 at a1 l1 ⊢
  have x0 : w1.cell? ⟨t1, 0, none⟩ = some (.int .i64 o.code) := cell_of a1
  have L1 := Lib.hid l1; have A1 := Lib.hid a1
  have hf1 := hf w1
  clear l1 a1 hf ho
  go_upto_region 2 with (first
    | (go_at_call 143; with_reducible refine hf1.mono ?_; rintro e w2 ⟨rfl, hb2⟩; have l2 := Low.of_below hb2; have L2 := Lib.hid (L1.out.trans (l2.mono L1.out.size)); have A2 := Lib.hid (l2.some A1.out); clear hb2 l2))
  have l3 : Low w2.heap.size w2 (w2.alloc (.cells #[.bool xr, .bool xa, .bool xb, .bool xn] 178)) := (Low.refl _ w2).alloc (Nat.le_refl _) _
  have a3 := heap_new w2 (.cells #[.bool xr, .bool xa, .bool xb, .bool xn] 178)
  have L3 := Lib.hid (L2.out.trans (l3.mono L2.out.size)); have A3 := Lib.hid (l3.some A2.out)
  clear l3 L1 A1 L2 A2 hf1 x0
  obtain ⟨t3, ht3⟩ : ∃ t, t = w2.heap.size := ⟨_, rfl⟩
  rw [← ht3] at a3 ⊢
  clear ht3
  generalize w2.alloc (.cells #[.bool xr, .bool xa, .bool xb, .bool xn] 178) = w3 at a3 L3 A3 ⊢
  have F3 := Lib.hid a3
  clear a3
  cases xa with
  | false =>
    cases xb with
    | false =>
      have z1 : w3.cell? ⟨t3, 1, none⟩ = some (.bool false) := cell_of F3.out
      have z2 : w3.cell? ⟨t3, 2, none⟩ = some (.bool false) := cell_of F3.out
      have z5 : w3.cell? ⟨t1, 5, none⟩ = some (.slice none 0 0) := cell_of A3.out
      go_wp2_with (first
        | (at_builtin; refine wpList_app_nil (A := none) (n := 0) (c := 0) rfl (.tmp 26) (.tmp 28) rfl rfl rfl (Nat.le_refl _) ?_))
      go_ret
      exact ⟨L3.out, _, rfl, none, 0, 0, rfl, by omega, .inl rfl⟩
    | true =>
      have z1 : w3.cell? ⟨t3, 1, none⟩ = some (.bool false) := cell_of F3.out
      have z2 : w3.cell? ⟨t3, 2, none⟩ = some (.bool true) := cell_of F3.out
      have z3 : w3.cell? ⟨t1, 3, none⟩ = some (.int .i64 0) := cell_of A3.out
      go_upto_region 7 with (first
        | (at_builtin; refine wpList_app1 (w := w3.alloc (.cells #[.int .i64 0] 3)) (P := Tryz.prog) (base := w3.heap.size) (n := 0) (m := 1) (xs := []) ap22 rfl (.tmp 21) (.tmp 24) rfl rfl (show Own _ w3.heap.size 3 1 (Value.slice none 0 0) 0 [] from Own.nil _ _ _ _) rfl (heap_new w3 _) rfl (by simp [Value.oneCell']) (by omega) (by simp) ?_; intro v9 w9 hap0; have hap : App1 (w3.alloc (.cells #[.int .i64 0] 3)) w9 w3.heap.size 3 1 (.slice none 0 0) v9 0 [] 1 [.int .i64 0] := hap0; clear hap0; obtain ⟨g9, cr, cs, rfl, hSr, hr, hcr, hown⟩ := hap.row (k := 1) rfl (by decide); have L9 := Lib.hid (((Low.refl w3.heap.size w3).alloc (Nat.le_refl _) (.cells #[.int .i64 0] 3)).trans (hap.low (Own.nil _ _ _ _) (Nat.le_refl _) (by simp))); have HOWN : Hid (Own w9 w3.heap.size 3 1 (.slice (some ⟨g9, 0, none⟩) 1 cr) 1 (List.replicate 1 (.int .i64 0))) := Lib.hid hown; clear hap hr hown))
      have z5 : w9.cell? ⟨t1, 5, none⟩ = some (.slice none 0 0) := cell_of (L9.out.some A3.out)
      go_wp2_with (first
        | (at_builtin; refine wpList_app_nil rfl (.tmp 26) (.tmp 28) rfl rfl rfl hcr ?_))
      go_ret
      exact ⟨L3.out.trans (L9.out.mono L3.out.size), _, rfl, Zeros.of_own HOWN.out (by omega)⟩
  | true =>
    have z1 : w3.cell? ⟨t3, 1, none⟩ = some (.bool true) := cell_of F3.out
    have z3 : w3.cell? ⟨t1, 2, none⟩ = some (.int .i64 0) := cell_of A3.out
    go_upto_region 5 with (first
      | (at_builtin; refine wpList_app1 (w := w3.alloc (.cells #[.int .i64 0] 3)) (P := Tryz.prog) (base := w3.heap.size) (n := 0) (m := 1) (xs := []) ap22 rfl (.tmp 14) (.tmp 17) rfl rfl (show Own _ w3.heap.size 3 1 (Value.slice none 0 0) 0 [] from Own.nil _ _ _ _) rfl (heap_new w3 _) rfl (by simp [Value.oneCell']) (by omega) (by simp) ?_; intro v9 w9 hap0; have hap : App1 (w3.alloc (.cells #[.int .i64 0] 3)) w9 w3.heap.size 3 1 (.slice none 0 0) v9 0 [] 1 [.int .i64 0] := hap0; clear hap0; obtain ⟨g9, cr, cs, rfl, hSr, hr, hcr, hown⟩ := hap.row (k := 1) rfl (by decide); have L9 := Lib.hid (((Low.refl w3.heap.size w3).alloc (Nat.le_refl _) (.cells #[.int .i64 0] 3)).trans (hap.low (Own.nil _ _ _ _) (Nat.le_refl _) (by simp))); have HOWN : Hid (Own w9 w3.heap.size 3 1 (.slice (some ⟨g9, 0, none⟩) 1 cr) 1 (List.replicate 1 (.int .i64 0))) := Lib.hid hown; clear hap hr hown))
    have F9 := Lib.hid (L9.out.some F3.out); have A9 := Lib.hid (L9.out.some A3.out)
    clear z1 z3
    cases xb with
    | false =>
      have z2 : w9.cell? ⟨t3, 2, none⟩ = some (.bool false) := cell_of F9.out
      have z5 : w9.cell? ⟨t1, 5, none⟩ = some (.slice none 0 0) := cell_of A9.out
      go_wp2_with (first
        | (at_builtin; refine wpList_app_nil rfl (.tmp 26) (.tmp 28) rfl rfl rfl hcr ?_))
      go_ret
      exact ⟨L3.out.trans (L9.out.mono L3.out.size), _, rfl, Zeros.of_own HOWN.out (by omega)⟩
    | true =>
      have z2 : w9.cell? ⟨t3, 2, none⟩ = some (.bool true) := cell_of F9.out
      have z3 : w9.cell? ⟨t1, 3, none⟩ = some (.int .i64 0) := cell_of A9.out
      have hb9 := L9.out.size
      have HOA := Lib.hid (HOWN.out.low ((Low.refl _ w9).alloc (Nat.le_refl _) (.cells #[.int .i64 0] 3)))
      have HB9 : Hid (w3.heap.size ≤ (w9.alloc (.cells #[.int .i64 0] 3)).heap.size) := Lib.hid (by simp; omega)
      go_upto_region 7 with (first
        | (at_builtin; refine wpList_app1 (w := w9.alloc (.cells #[.int .i64 0] 3)) (P := Tryz.prog) (base := w3.heap.size) (n := 1) (m := 1) (xs := [.int .i64 0]) ap22 rfl (.tmp 21) (.tmp 24) rfl rfl HOA.out rfl (heap_new w9 _) rfl (by simp [Value.oneCell']) (by omega) HB9.out ?_; intro v10 w10 hap; obtain ⟨g10, cr10, cs10, rfl, hSr10, hr10, hcr10, hown10⟩ := hap.row (k := 2) rfl (by decide); have L10 := Lib.hid ((((Low.refl w3.heap.size w9).alloc hb9 _)).trans (hap.low HOA.out (Nat.le_refl _) HB9.out)); have HOWN10 := Lib.hid hown10; clear hap hr10 hown10 z2 z3))
      have z5 : w10.cell? ⟨t1, 5, none⟩ = some (.slice none 0 0) := cell_of ((L9.out.trans L10.out).some A3.out)
      go_wp2_with (first
        | (at_builtin; refine wpList_app_nil rfl (.tmp 26) (.tmp 28) rfl rfl rfl hcr10 ?_))
      go_ret
      exact ⟨L3.out.trans ((L9.out.trans L10.out).mono L3.out.size), _, rfl, Zeros.of_own HOWN10.out (by omega)⟩
end Go.Proofs.YtnjdegjpmbdboaaGreat
