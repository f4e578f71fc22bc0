/- The blocks of a graph of one block. -/
import Derived.Test.YtnjdegjpmbdboaaGreatQ3
import Derived.Test.YtnjdegjpmbdboaaGreatQ4
import Derived.Laws.EntriesVeiled
namespace Go.Proofs.YtnjdegjpmbdboaaGreat
open Go.RowKit
set_option linter.unusedVariables false
/-- An empty map. -/
def Empty (w : World) (g : Nat) : Prop := ∃ clock, w.heap[g]? = some (.map #[] clock)
section
variable {P : Program} {w : World} {t kt et : TypeId} {g : Nat}
/-- A type of keys that are no structs, arrays or interfaces. -/
def PlainKey (P : Program) (kt : TypeId) : Prop := ∃ d, P.underlying kt = some d ∧ (match d with | .interface _ | .array _ _ | .struct _ => False | _ => True)
theorem checkKey_plain (hk : PlainKey P kt) (b : Bool) (v : Value) (w : World) : (Instr.checkKey b 10000 kt v).run P w = .ok () w := by
  obtain ⟨d, hd, hp⟩ := hk
  have e : ∀ n : Nat, (Instr.checkKey b (n + 1) kt v).run P w = .ok () w := fun n => by
    unfold Instr.checkKey
    simp only [Sem.run_bind, run_underlying hd, Result.andThen_ok]
    cases d <;> first | exact hp.elim | rfl
  exact e 9999
theorem findKey_none (hk : PlainKey P kt) (v : Value) (w : World) : (Instr.findKey kt v []).run P w = .ok none w := by
  obtain ⟨d, hd, _⟩ := hk
  simp only [Instr.findKey, Sem.run_bind, run_underlying hd, Result.andThen_ok, Instr.findNow]
  rfl
theorem lookup_empty (ht : P.underlying t = some (.map kt et)) (hk : PlainKey P kt) (h : Empty w g) {z : Value} (hz : (zeroValue et).run P w = .ok z w) (ok : Bool) (v : Value) :
    (Instr.lookup t (.map (some g)) v ok).run P w = .ok (if ok then .tuple #[z, .bool false] else z) w := by
  obtain ⟨clock, hg⟩ := h
  simp [Instr.lookup, run_underlying ht, MapKept.run_getObj_map hg, checkKey_plain hk, findKey_none hk, hz]
theorem update_empty (ht : P.underlying t = some (.map kt et)) (hk : PlainKey P kt) (h : Empty w g) (key v : Value) :
    ∃ es c, (Instr.mapUpdate t (.map (some g)) key v).run P w = .ok () (Go.ChangeMaps.setBlock w g (.map es c)) := by
  obtain ⟨clock, hg⟩ := h
  refine ⟨#[⟨key, v, clock⟩], clock + 1, ?_⟩
  simp [Instr.mapUpdate, run_underlying ht, MapKept.run_getObj_map hg, checkKey_plain hk, findKey_none hk, MapKept.run_setObj_map _ hg, Go.ChangeMaps.setBlock]
end
theorem Low.setBlock {S : Nat} {w w' : World} (h : Low S w w') {g : Nat} (hg : S ≤ g) (o : Obj) : Low S w (Go.ChangeMaps.setBlock w' g o) := h.trans ⟨rfl, rfl, by simp [Go.ChangeMaps.setBlock], fun b hb => by
  simp only [Go.ChangeMaps.setBlock, Array.getElem?_setIfInBounds]
  rw [if_neg (by omega)]⟩
theorem setBlock_other {w : World} {g b : Nat} (o : Obj) (h : b ≠ g) : (Go.ChangeMaps.setBlock w g o).heap[b]? = w.heap[b]? := by
  simp only [Go.ChangeMaps.setBlock, Array.getElem?_setIfInBounds]
  rw [if_neg (by omega)]
theorem setBlock_cell {w : World} {g b i : Nat} (o : Obj) (h : b ≠ g) : (Go.ChangeMaps.setBlock w g o).cell? ⟨b, i, none⟩ = w.cell? ⟨b, i, none⟩ := World.cell?_of_block (w := w) (setBlock_other o h)
theorem plain72 : PlainKey Tryz.prog 72 := ⟨_, Tryz.underlying72, trivial⟩
theorem info_of {P : Program} {e s b : Nat} {z : Value} (h : (P.info? e).map (fun i => (i.zero, i.size, i.bytes)) = some (some z, s, b)) : ∃ ti, P.info? e = some ti ∧ ti.zero = some z ∧ ti.size = s ∧ ti.bytes = b := by
  obtain ⟨ti, h1, h2⟩ := Option.map_eq_some_iff.1 h
  simp only [Prod.mk.injEq] at h2
  exact ⟨ti, h1, h2.1, h2.2.1, h2.2.2⟩
theorem ap75 : Ap Tryz.prog 75 72 1 8 := ⟨Tryz.underlying75, by
  obtain ⟨ti, hti, hz, hs, hb⟩ := info_of (show (Tryz.prog.info? 72).map (fun i => (i.zero, i.size, i.bytes)) = some (some (.pointer none), 1, 8) by kernel_rfl)
  exact ⟨ti, _, hti, hz, hs, hb, rfl⟩, by decide, by decide⟩
set_option maxRecDepth 100000 in
set_option maxHeartbeats 4000000 in
theorem visit_any (w : World) (S b s o v g c : Nat) (A : Option Addr) (hs : w.cell? ⟨s, 0, none⟩ = some (.map (some g))) (he : Empty w g) (ho : w.heap[o]? = some (.cells #[.slice none 0 0] 75 (0, 0))) (ht : w.cell? ⟨b, 4, none⟩ = some (.slice A 0 c)) (hSg : S ≤ g) (hSo : S ≤ o) (hSw : S ≤ w.heap.size) :
    Calls Tryz.prog 72 #[.pointer (some ⟨b, 0, none⟩), .pointer (some ⟨s, 0, none⟩), .pointer (some ⟨o, 0, none⟩), .pointer (some ⟨v, 0, none⟩)] w (fun e w' => e = .returned (.tuple #[]) ∧ Low S w w' ∧ ∃ r cr, w'.cell? ⟨o, 0, none⟩ = some (.slice (some ⟨r, 0, none⟩) 1 cr) ∧ w'.cell? ⟨r, 0, none⟩ = some (.pointer (some ⟨b, 0, none⟩)) ∧ S ≤ r ∧ 1 ≤ cr) := by
  have hl := lookup_empty (P := Tryz.prog) (t := 115) Tryz.underlying115 plain72 he (z := .bool false) (by kernel_rfl) false (.pointer (some ⟨b, 0, none⟩))
  obtain ⟨es, cl, hu⟩ := update_empty (P := Tryz.prog) (t := 115) Tryz.underlying115 plain72 he (.pointer (some ⟨b, 0, none⟩)) (.bool true)
  have hog : o ≠ g := by
    rintro rfl
    obtain ⟨cl, h1⟩ := he
    rw [ho] at h1; cases h1
  go_enter Tryz.func72, Tryz.ntmps72
  go_upto_region 2 with fail
  have hbg : b ≠ g := by
    rintro rfl
    obtain ⟨cl, h1⟩ := he
    simp [World.cell?, h1] at ht
  have lA : Low S w (Go.ChangeMaps.setBlock w g (.map es cl)) := (Low.refl S w).setBlock hSg _
  have oA := (setBlock_other (.map es cl) hog).trans ho
  have tA := (setBlock_cell (.map es cl) hbg).trans ht
  generalize Go.ChangeMaps.setBlock w g (.map es cl) = wA at lA oA tA ⊢
  have hSA : S ≤ wA.heap.size := Nat.le_trans hSw lA.size
  have c0 : wA.cell? ⟨o, 0, none⟩ = some (.slice none 0 0) := cell_of oA
  have hoA : o < wA.heap.size := heap_lt oA
  have hbA : b < wA.heap.size := cell_lt tA
  have c0a : (wA.alloc (.cells #[.pointer (some ⟨b, 0, none⟩)] 72)).cell? ⟨o, 0, none⟩ = some (.slice none 0 0) := cell_of (heap_old _ oA)
  have LA := Lib.hid lA; have OA := Lib.hid oA; have TA := Lib.hid tA
  clear hl hu he hs ho ht lA oA tA
  go_upto_region 3 with (first
    | (at_builtin; refine wpList_app1 (w := wA.alloc (.cells #[.pointer (some ⟨b, 0, none⟩)] 72)) (P := Tryz.prog) (base := S) (n := 0) (m := 1) (xs := []) ap75 rfl (.tmp 12) (.tmp 14) rfl rfl (show Own _ S 72 1 (Value.slice none 0 0) 0 [] from Own.nil _ _ _ _) rfl (heap_new wA _) rfl (by simp [Value.oneCell']) (by omega) (by simp; omega) ?_; intro v9 w9 happ0; have happ : App1 (wA.alloc (.cells #[.pointer (some ⟨b, 0, none⟩)] 72)) w9 S 72 1 (.slice none 0 0) v9 0 [] 1 [.pointer (some ⟨b, 0, none⟩)] := happ0; clear happ0; obtain ⟨r, cr, cs, rfl, hSr, hr, hcr, hown⟩ := happ.row (k := 1) rfl (by decide); have l9 : Low S (wA.alloc (.cells #[.pointer (some ⟨b, 0, none⟩)] 72)) w9 := happ.low (Own.nil _ _ _ _) (Nat.le_refl _) (by simp; omega); have o9 : w9.heap[o]? = some (.cells #[.slice none 0 0] 75 (0, 0)) := (happ.block o (by simp; omega) (by simp [Value.ownBlock])).trans (heap_old _ OA.out); have t9 : w9.cell? ⟨b, 4, none⟩ = some (.slice A 0 c) := ((World.cell?_of_block (a := ⟨b, 4, none⟩) (happ.block b (by simp; omega) (by simp [Value.ownBlock]))).trans (World.cell?_alloc_lt wA _ ⟨b, 4, none⟩ hbA)).trans TA.out; have k9 : w9.cell? ⟨o, 0, none⟩ = some (.slice none 0 0) := cell_of o9; have f9 : w9.frozen? ⟨o, 0, none⟩ = false := free_of o9; have HOWN := Lib.hid hown; have HR := Lib.hid hr; have L9 := Lib.hid l9; have O9 := Lib.hid o9; have T9 := Lib.hid t9; clear happ hown hr l9 o9 t9))
  have x9 : w9.cell? ⟨r, 0, none⟩ = some (.pointer (some ⟨b, 0, none⟩)) := HOWN.out.cell (j := 0) rfl
  have hro : r ≠ o := by
    rintro rfl
    have hr := HR.out
    rw [O9.out] at hr; cases hr
  have hbo : b ≠ o := by
    rintro rfl
    have := T9.out
    rw [cell_of O9.out] at this
    simp at this
  have tF : (w9.setCell ⟨o, 0, none⟩ (.slice (some ⟨r, 0, none⟩) 1 cr)).cell? ⟨b, 4, none⟩ = some (.slice A 0 c) := (World.cell?_of_block (set_other hbo)).trans T9.out
  have xF : (w9.setCell ⟨o, 0, none⟩ (.slice (some ⟨r, 0, none⟩) 1 cr)).cell? ⟨r, 0, none⟩ = some (.pointer (some ⟨b, 0, none⟩)) := (World.cell?_of_block (set_other hro)).trans x9
  have oF : (w9.setCell ⟨o, 0, none⟩ (.slice (some ⟨r, 0, none⟩) 1 cr)).cell? ⟨o, 0, none⟩ = some (.slice (some ⟨r, 0, none⟩) 1 cr) := cell_of (set_blk O9.out)
  have lF : Low S w (w9.setCell ⟨o, 0, none⟩ (.slice (some ⟨r, 0, none⟩) 1 cr)) := ((LA.out.alloc hSA _).trans L9.out).setCell hSo _
  generalize w9.setCell ⟨o, 0, none⟩ (.slice (some ⟨r, 0, none⟩) 1 cr) = wF at tF xF oF lF ⊢
  have XF := Lib.hid xF; have OF := Lib.hid oF; have LF := Lib.hid lF
  clear xF oF lF HOWN HR L9 O9 T9 LA OA TA k9 f9 x9
  go_wp2_with fail
  go_loopw [21] (fun i wr => i = .int .i64 0 ∧ wr = wF) (fun _ _ => 0)
  case atStart => exact ⟨rfl, rfl⟩
  case round =>
    obtain ⟨rfl, rfl⟩ := hrel
    go_wp2_with fail
    go_end0
    exact ⟨rfl, LF.out, r, cr, OF.out, XF.out, hSr, hcr⟩
theorem alloc_at {w : World} {n : Nat} (o : Obj) (h : w.heap.size = n) : (w.alloc o).heap[n]? = some o ∧ (w.alloc o).heap.size = n + 1 ∧ ∀ (g : Nat) (ob : Obj), w.heap[g]? = some ob → (w.alloc o).heap[g]? = some ob := by
  subst h
  exact ⟨heap_new w o, by simp, fun g ob hh => heap_old o hh⟩
/-- The graph's blocks: the one that it enters. -/
def BlocksP (w : World) (b : Nat) (e : Ending) (w' : World) : Prop := Low w.heap.size w w' ∧ ∃ r cr, e = .returned (.slice (some ⟨r, 0, none⟩) 1 cr) ∧ w'.cell? ⟨r, 0, none⟩ = some (.pointer (some ⟨b, 0, none⟩)) ∧ w.heap.size ≤ r ∧ 1 ≤ cr
set_option maxRecDepth 100000 in
set_option maxHeartbeats 4000000 in
theorem blocks_any (w : World) (gr b c : Nat) (A : Option Addr) (hg : w.cell? ⟨gr, 0, none⟩ = some (.pointer (some ⟨b, 0, none⟩))) (ht : w.cell? ⟨b, 4, none⟩ = some (.slice A 0 c)) :
    Calls Tryz.prog 38 #[.pointer (some ⟨gr, 0, none⟩)] w (BlocksP w b) := by
  have hmf : ∀ (fn : Fn) (first cap : Array Value) (w : World), (Instr.makeFunc fn first cap).run Tryz.prog w = .ok (.func fn first cap) w := fun _ _ _ _ => rfl
  have hmm : ∀ u : World, (Instr.makeMap 115 none).run Tryz.prog u = .ok (.map (some u.heap.size)) (u.alloc (.map #[] 0)) := fun u => by kernel_rfl
  obtain ⟨S, hS⟩ : ∃ S, w.heap.size = S := ⟨_, rfl⟩
  obtain ⟨a1, s1, u1⟩ := alloc_at (.cells #[.slice none 0 0] 75) hS
  obtain ⟨a2, s2, u2⟩ := alloc_at (.map #[] 0) s1
  obtain ⟨a3, s3, u3⟩ := alloc_at (.cells #[.map (some (S + 1))] 115) s2
  obtain ⟨a4, s4, u4⟩ := alloc_at (.cells #[.func (.func 72) #[] #[.pointer (some ⟨S + 1 + 1, 0, none⟩), .pointer (some ⟨S, 0, none⟩), .pointer (some ⟨S + 1 + 1 + 1, 0, none⟩)]] 116) s3
  have l5 : Low S w ((((w.alloc (.cells #[.slice none 0 0] 75)).alloc (.map #[] 0)).alloc (.cells #[.map (some (S + 1))] 115)).alloc (.cells #[.func (.func 72) #[] #[.pointer (some ⟨S + 1 + 1, 0, none⟩), .pointer (some ⟨S, 0, none⟩), .pointer (some ⟨S + 1 + 1 + 1, 0, none⟩)]] 116)) := ((((Low.refl S w).alloc (by omega) _).alloc (by omega) _).alloc (by omega) _).alloc (by omega) _
  have o5 := u4 _ _ (u3 _ _ (u2 _ _ a1))
  have m5 := u4 _ _ (u3 _ _ a2)
  have p5 := u4 _ _ a3
  have hgr : gr < S := hS ▸ cell_lt hg
  have hb : b < S := hS ▸ cell_lt ht
  have HG := Lib.hid hg; have HT := Lib.hid ht; have L5 := Lib.hid l5; have O5 := Lib.hid o5; have M5 := Lib.hid m5; have P5 := Lib.hid p5; have A5 := Lib.hid a4
  clear a1 a2 a3 a4 u1 u2 u3 u4 l5 o5 m5 p5 hg ht s1 s2 s3 s4
  go_enter Tryz.func38, Tryz.ntmps38
  go_upto_region 5 with fail
  generalize ((((w.alloc (.cells #[.slice none 0 0] 75)).alloc (.map #[] 0)).alloc (.cells #[.map (some (S + 1))] 115)).alloc (.cells #[.func (.func 72) #[] #[.pointer (some ⟨S + 1 + 1, 0, none⟩), .pointer (some ⟨S, 0, none⟩), .pointer (some ⟨S + 1 + 1 + 1, 0, none⟩)]] 116)) = w5 at L5 O5 M5 P5 A5 ⊢
  have l5 := L5.out; have o5 := O5.out; have m5 := M5.out; have p5 := P5.out; have a5 := A5.out
  have q0 : w5.cell? ⟨S + 1 + 1 + 1, 0, none⟩ = some (.func (.func 72) #[] #[.pointer (some ⟨S + 1 + 1, 0, none⟩), .pointer (some ⟨S, 0, none⟩), .pointer (some ⟨S + 1 + 1 + 1, 0, none⟩)]) := cell_of a5
  have q1 : w5.cell? ⟨gr, 0, none⟩ = some (.pointer (some ⟨b, 0, none⟩)) := (World.cell?_of_block (l5.block gr hgr)).trans HG.out
  have q2 : w5.cell? ⟨b, 4, none⟩ = some (.slice A 0 c) := (World.cell?_of_block (l5.block b hb)).trans HT.out
  have hvis := visit_any w5.drew S b (S + 1 + 1) S (S + 1 + 1 + 1) (S + 1) c A (cell_of p5) ⟨0, m5⟩ o5 q2 (by omega) (Nat.le_refl _) (by have := l5.size; show S ≤ w5.heap.size; omega)
  clear l5 o5 m5 p5 a5
  have hvis' : Calls Tryz.prog 72 #[.pointer (some ⟨b, 0, none⟩), .pointer (some ⟨S + 1 + 1, 0, none⟩), .pointer (some ⟨S, 0, none⟩), .pointer (some ⟨S + 1 + 1 + 1, 0, none⟩)] w5.drew (fun e w' => ∃ v, e = .returned v ∧ (v = .tuple #[] ∧ Low S w5.drew w' ∧ ∃ r cr, w'.cell? ⟨S, 0, none⟩ = some (.slice (some ⟨r, 0, none⟩) 1 cr) ∧ w'.cell? ⟨r, 0, none⟩ = some (.pointer (some ⟨b, 0, none⟩)) ∧ S ≤ r ∧ 1 ≤ cr)) := hvis.mono (fun e w' h => ⟨_, h.1, rfl, h.2⟩)
  clear hvis
  go_region_law (first
    | (refine step_call rfl 72 #[.pointer (some ⟨b, 0, none⟩), .pointer (some ⟨S + 1 + 1, 0, none⟩), .pointer (some ⟨S, 0, none⟩), .pointer (some ⟨S + 1 + 1 + 1, 0, none⟩)] (by go_simp) _ hvis' ?_; rintro v w6 ⟨rfl, l6, r, cr, e6, x6, hr6, hcr6⟩))
  all_goals (try go_wp2_with fail)
  all_goals (go_ret; exact ⟨by rw [hS]; exact L5.out.drew.trans l6, r, cr, rfl, x6, by rw [hS]; exact hr6, hcr6⟩)
end Go.Proofs.YtnjdegjpmbdboaaGreat
