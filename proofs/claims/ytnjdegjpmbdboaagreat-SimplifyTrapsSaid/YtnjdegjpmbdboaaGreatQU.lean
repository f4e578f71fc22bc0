/- canon: its closures. -/
import Derived.Test.YtnjdegjpmbdboaaGreatQT
namespace Go.Proofs.YtnjdegjpmbdboaaGreat
open Go.RowKit
set_option linter.unusedVariables false
theorem enters33 : ∀ (args : Array Value) (w : World), (callFunc 33 args).run Tryz.prog w = .ok (.enter 33 args) w := enters_body Tryz.func33 (by kernel_rfl) rfl
theorem enters32 : ∀ (args : Array Value) (w : World), (callFunc 32 args).run Tryz.prog w = .ok (.enter 32 args) w := enters_body Tryz.func32 (by kernel_rfl) rfl
set_option maxRecDepth 100000 in
set_option maxHeartbeats 4000000 in
theorem value_any (w : World) (z um : Nat) (m : List (Int × Value)) (v k : Int) (hz : w.cell? ⟨z, 0, none⟩ = some (.map (some um))) (hm : IMap w um m) (hk : getI m v = some (.int .i64 k)) :
    Calls Tryz.prog 33 #[.int .i64 v, .pointer (some ⟨z, 0, none⟩)] w (fun e w' => e = .returned (.int .i64 k) ∧ w' = w) := by
  have hl : (Instr.lookup 53 (.map (some um)) (.int .i64 v) false).run Tryz.prog w = .ok (.int .i64 k) w := by
    have := lookup_i (P := Tryz.prog) (t := 53) Tryz.underlying53 Tryz.underlying3 hm (k := v) (z := .int .i64 0) (by kernel_rfl) false
    rw [hk] at this
    exact this
  clear hm hk
  go_enter Tryz.func33, Tryz.ntmps33
  go_wp2_with fail
  go_ret
  exact ⟨rfl, rfl⟩
theorem value_keeps (wa : World) (z um : Nat) (m : List (Int × Value)) (hz : wa.heap[z]? = some (.cells #[.map (some um)] 53 (0, 0))) (hm : IMap wa um m) (h0 : getI m 0 = some (.int .i64 0)) : Keeps0 wa.heap.size (fun wx => Low wa.heap.size wa wx) 33 #[] #[.pointer (some ⟨z, 0, none⟩)] := fun w1 h1 => by
  refine (value_any w1 z um m 0 0 (cell_of (h1.some hz)) (hm.low h1) h0).mono ?_
  rintro e w2 ⟨rfl, rfl⟩
  exact ⟨rfl, h1, Nat.le_refl _, fun _ _ _ => rfl⟩
set_option maxRecDepth 100000 in
set_option maxHeartbeats 4000000 in
theorem all_one (w : World) (g c z um : Nat) (m : List (Int × Value)) (hg : w.cell? ⟨g, 0, none⟩ = some (.int .i64 0)) (hz : w.heap[z]? = some (.cells #[.map (some um)] 53 (0, 0))) (hm : IMap w um m) (h0 : getI m 0 = some (.int .i64 0)) :
    Calls Tryz.prog 34 #[.slice (some ⟨g, 0, none⟩) 1 c, .func (.func 33) #[] #[.pointer (some ⟨z, 0, none⟩)]] w (fun e w' => Low w.heap.size w w' ∧ ∃ Pp pc, e = .returned (.slice Pp 1 pc) ∧ ParAt w' Pp pc) := by
  have hv := fun (u : World) (hl : Low w.heap.size w u) => value_any u z um m 0 0 (cell_of (hl.some hz)) (hm.low hl) h0
  have HV := Lib.hid hv
  clear hv hm hz h0
  have hgs := cell_lt hg
  go_enter Tryz.func34, Tryz.ntmps34
  go_wp2_with fail
  go_loopw [10, 5] (fun i s wr => (i = .int .i64 0 ∧ s = .slice none 0 0 ∧ wr = w) ∨ (i = .int .i64 1 ∧ ∃ Pp pc, s = .slice Pp 1 pc ∧ Low w.heap.size w wr ∧ ParAt wr Pp pc)) (fun i _ _ => 1 - (intOf i).toNat)
  case atStart => exact .inl ⟨rfl, rfl, rfl⟩
  case round =>
    rcases hrel with ⟨rfl, rfl, rfl⟩ | ⟨rfl, Pp, pc, rfl, hl, hp⟩
    · obtain ⟨w, rfl⟩ : ∃ u, u = wr := ⟨_, rfl⟩
      go_upto_region 6 with (first
        | (with_reducible refine (HV.out _ (Low.refl _ _)).mono ?_; rintro e w6 ⟨rfl, he6⟩; rw [he6]; clear he6 w6)
        | (at_builtin; refine wpList_app1 (w := w.alloc (.cells #[.int .i64 0] 3)) (P := Tryz.prog) (base := w.heap.size) (n := 0) (m := 1) (xs := []) ap22 rfl (.tmp 14) (.tmp 18) rfl rfl (show Own _ w.heap.size 3 1 (Value.slice none 0 0) 0 [] from Own.nil _ _ _ _) rfl (heap_new w _) rfl (by simp [Value.oneCell']) (by omega) (by simp) ?_; intro v9 w9 happ0; have happ : App1 (w.alloc (.cells #[.int .i64 0] 3)) w9 w.heap.size 3 1 (.slice none 0 0) v9 0 [] 1 [.int .i64 0] := happ0; clear happ0; obtain ⟨g9, cr, cs, rfl, hSr, hr, hcr, hown⟩ := happ.row (k := 1) rfl (by decide); have l9 := Lib.hid (((Low.refl w.heap.size w).alloc (Nat.le_refl _) (.cells #[.int .i64 0] 3)).trans (happ.low (Own.nil _ _ _ _) (Nat.le_refl _) (by simp))); have k9 := Lib.hid (show cs[0]? = some (.int .i64 0) from (cell_of hr).symm.trans (hown.cell (j := 0) (u := .int .i64 0) rfl)); have R9 := Lib.hid hr; clear happ hown hr))
      go_wp2_with fail
      exact ⟨.inr ⟨rfl, some ⟨g9, 0, none⟩, cr, rfl, l9.out, g9, cs, rfl, hcr, R9.out, k9.out⟩, by decide⟩
    · go_wp2_with fail
      go_ret
      exact ⟨hl, Pp, pc, rfl, hp⟩
set_option maxRecDepth 100000 in
set_option maxHeartbeats 4000000 in
theorem number_visit (w : World) (t3 t4 t1 pm g cg tc : Nat) (self : Value) (T : Option Addr) (h3 : w.heap[t3]? = some (.cells #[.map (some pm)] 53 (0, 0))) (hpm : Empty w pm) (h4 : w.heap[t4]? = some (.cells #[.slice none 0 0] 22 (0, 0))) (h1 : w.heap[t1]? = some (.cells #[.slice (some ⟨g, 0, none⟩) 1 cg] 39 (0, 0))) (hg : w.cell? ⟨g, 4, none⟩ = some (.slice T 0 tc)) (hg29 : ∃ cs, w.heap[g]? = some (.cells cs 29 (0, 0))) :
    Calls Tryz.prog 32 #[.int .i64 0, .pointer (some ⟨t3, 0, none⟩), .pointer (some ⟨t4, 0, none⟩), .pointer (some ⟨t1, 0, none⟩), self] w (fun e w' => e = .returned (.tuple #[]) ∧ Chs [pm, t4] w w' ∧ ∃ go co cs, w.heap.size ≤ go ∧ w'.heap[t4]? = some (.cells #[.slice (some ⟨go, 0, none⟩) 1 co] 22 (0, 0)) ∧ w'.heap[go]? = some (.cells cs 3 (0, 0)) ∧ cs[0]? = some (.int .i64 0)) := by
  have hl := lookup_empty (P := Tryz.prog) (t := 53) Tryz.underlying53 plain3 hpm (z := .int .i64 0) (by kernel_rfl) true (.int .i64 0)
  have hl' : (Instr.lookup 53 (.map (some pm)) (.int .i64 0) true).run Tryz.prog w = .ok (.tuple #[.int .i64 0, .bool false]) w := hl
  obtain ⟨es, cl, hu⟩ := update_empty (P := Tryz.prog) (t := 53) Tryz.underlying53 plain3 hpm (.int .i64 0) (.int .i64 0)
  have hne : ∀ {b : Nat} {cs : Array Value} {e : TypeId} {fr : Nat × Nat}, w.heap[b]? = some (.cells cs e fr) → b ≠ pm := fun {b cs e fr} hb he => by
    subst he
    obtain ⟨cl, h⟩ := hpm
    rw [hb] at h; cases h
  obtain ⟨cs0, hg0⟩ := hg29
  have y3 : w.cell? ⟨t3, 0, none⟩ = some (.map (some pm)) := cell_of h3
  have y4 : w.cell? ⟨t4, 0, none⟩ = some (.slice none 0 0) := cell_of h4
  have a4 := (setBlock_other (.map es cl) (hne h4)).trans h4
  have a1 := (setBlock_other (.map es cl) (hne h1)).trans h1
  have ag := (setBlock_other (.map es cl) (hne hg0)).trans hg0
  have hgc : cs0[4]? = some (.slice T 0 tc) := (cell_of hg0).symm.trans hg
  have hc0 : Chs [pm, t4] w (Go.ChangeMaps.setBlock w pm (.map es cl)) := Chs.setBlock _ (by simp) _
  have HGC := Lib.hid hgc
  clear hl hpm hne h3 h4 h1 hg hg0 hgc
  go_enter Tryz.func32, Tryz.ntmps32
  go_upto_region 3 with fail
  clear hl' hu y3 y4
  generalize Go.ChangeMaps.setBlock w pm (.map es cl) = wA at a4 a1 ag hc0 ⊢
  have c4 : wA.cell? ⟨t4, 0, none⟩ = some (.slice none 0 0) := cell_of a4
  have A4 := Lib.hid a4; have A1 := Lib.hid a1; have AG := Lib.hid ag; have C0 := Lib.hid hc0
  clear a4 a1 ag hc0
  go_upto_region 4 with (first
    | (at_builtin; refine wpList_app1 (w := wA.alloc (.cells #[.int .i64 0] 3)) (P := Tryz.prog) (base := wA.heap.size) (n := 0) (m := 1) (xs := []) ap22 rfl (.tmp 21) (.tmp 23) rfl rfl (show Own _ wA.heap.size 3 1 (Value.slice none 0 0) 0 [] from Own.nil _ _ _ _) rfl (heap_new wA _) rfl (by simp [Value.oneCell']) (by omega) (by simp) ?_; intro v9 w9 happ0; have happ : App1 (wA.alloc (.cells #[.int .i64 0] 3)) w9 wA.heap.size 3 1 (.slice none 0 0) v9 0 [] 1 [.int .i64 0] := happ0; clear happ0; obtain ⟨g9, cr, cs, rfl, hSr, hr, hcr, hown⟩ := happ.row (k := 1) rfl (by decide); have l9 := ((Low.refl wA.heap.size wA).alloc (Nat.le_refl _) (.cells #[.int .i64 0] 3)).trans (happ.low (Own.nil _ _ _ _) (Nat.le_refl _) (by simp)); have k9 := Lib.hid (show cs[0]? = some (.int .i64 0) from (cell_of hr).symm.trans (hown.cell (j := 0) (u := .int .i64 0) rfl)); have R9 := Lib.hid hr; have o9 := l9.some A4.out; have f9 : w9.frozen? ⟨t4, 0, none⟩ = false := free_of o9; have x9 : w9.cell? ⟨t4, 0, none⟩ = some (.slice none 0 0) := cell_of o9; have L9 := Lib.hid l9; have O9 := Lib.hid o9; clear happ hown hr l9 o9))
  have ht4 := heap_lt A4.out
  have hgz : g9 ≠ t4 := by omega
  have ht14 : t1 ≠ t4 := by
    rintro rfl
    have := A4.out
    rw [A1.out] at this; cases this
  have hg4 : g ≠ t4 := by
    rintro rfl
    have := A4.out
    rw [AG.out] at this; cases this
  have e1 : (w9.setCell ⟨t4, 0, none⟩ (.slice (some ⟨g9, 0, none⟩) 1 cr)).cell? ⟨t1, 0, none⟩ = some (.slice (some ⟨g, 0, none⟩) 1 cg) := cell_of ((set_other ht14).trans (L9.out.some A1.out))
  have eg : (w9.setCell ⟨t4, 0, none⟩ (.slice (some ⟨g9, 0, none⟩) 1 cr)).cell? ⟨g, 4, none⟩ = some (.slice T 0 tc) := (cell_of ((set_other hg4).trans (L9.out.some AG.out))).trans HGC.out
  have HF := Lib.hid (show Chs [pm, t4] w (w9.setCell ⟨t4, 0, none⟩ (.slice (some ⟨g9, 0, none⟩) 1 cr)) ∧ (w9.setCell ⟨t4, 0, none⟩ (.slice (some ⟨g9, 0, none⟩) 1 cr)).heap[t4]? = some (.cells #[.slice (some ⟨g9, 0, none⟩) 1 cr] 22 (0, 0)) ∧ (w9.setCell ⟨t4, 0, none⟩ (.slice (some ⟨g9, 0, none⟩) 1 cr)).heap[g9]? = some (.cells cs 3 (0, 0)) from ⟨(C0.out.trans (Chs.of_low L9.out)).trans (Chs.setCell _ (by simp) _), set_blk O9.out, (set_other hgz).trans R9.out⟩)
  have hgs : w.heap.size ≤ g9 := Nat.le_trans C0.out.size hSr
  clear ht4 hgz ht14 hg4 x9 f9
  generalize w9.setCell ⟨t4, 0, none⟩ (.slice (some ⟨g9, 0, none⟩) 1 cr) = wB at e1 eg HF ⊢
  go_wp2_with fail
  go_loopw [33] (fun i wr => i = .int .i64 0 ∧ wr = wB) (fun _ _ => 0)
  case atStart => exact ⟨rfl, rfl⟩
  case round =>
    obtain ⟨rfl, rfl⟩ := hrel
    go_wp2_with fail
    go_end0
    exact ⟨rfl, HF.out.1, g9, cr, cs, hgs, HF.out.2.1, HF.out.2.2, k9.out⟩
end Go.Proofs.YtnjdegjpmbdboaaGreat
