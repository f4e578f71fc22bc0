/- vellumref05.blank of an image with one bank: one row of zeros. -/
import Derived.Test.YtnbicnmniodjpaaGreatD2
import Derived.Test.YtnbicnmniodjpaaGreatW1
import Derived.Laws.MakeOwn
import Derived.Laws.OwnMore
set_option linter.unusedSimpArgs false
set_option linter.unusedVariables false
set_option linter.unusedSectionVars false
namespace Go.Proofs.YtnbicnmniodjpaaGreat
open Go.RowKit
set_option linter.unusedVariables false
set_option linter.unusedSectionVars false
set_option maxRecDepth 100000
theorem info_of {α : Type} {o : Option TypeInfo} {f : TypeInfo → Option Value × Nat × Nat} {x : Option Value × Nat × Nat} (h : o.map f = some x) : ∃ ti, o = some ti ∧ f ti = x := by
  cases o with
  | none => cases h
  | some ti => exact ⟨ti, rfl, by simpa using h⟩
def zeros4 : Array Value := madeCells #[.int .u8 0] 4096
theorem ap43 : Ap Tryz.prog 43 64 1 24 := by
  obtain ⟨ti, hti, h⟩ := info_of (α := Unit) (show (Tryz.prog.info? 64).map (fun i => (i.zero, i.size, i.bytes)) = some (some (.slice none 0 0), 1, 24) by kernel_rfl)
  simp only [Prod.mk.injEq] at h
  exact ⟨Tryz.underlying43, ⟨ti, _, hti, h.1, h.2.1, h.2.2, rfl⟩, by decide, by decide⟩
theorem DataIs.low {w w' : World} {v : Value} (h : DataIs w v) (hl : Low w.heap.size w w') : DataIs w' v := by
  have f : ∀ {p : Addr} {u : Value}, w.cell? p = Option.some u → w'.cell? p = Option.some u := fun {p u} hp => (World.cell?_of_block (hl.block p.block (cell_lt hp))).trans hp
  rcases h with h | ⟨d, q, c, a, s, h1, h2, h3, h4⟩
  · exact .inl h
  · exact .inr ⟨d, q, c, a, s, h1, f h2, f h3, f h4⟩
theorem Low.cellv {w w' : World} (hl : Low w.heap.size w w') {p : Addr} {u : Value} (hp : w.cell? p = Option.some u) : w'.cell? p = Option.some u := (World.cell?_of_block (hl.block p.block (cell_lt hp))).trans hp
/-- A row of one element. -/
def OwnX (w : World) (v : Value) (xs : List Value) : Prop := ∃ B, Own w B 64 1 v 1 xs
abbrev imC (b o c : Nat) (e v dv rv : Value) : Obj := .cells #[.slice (some ⟨b, o, none⟩) 1 c, e, v, dv, rv] 28
set_option maxHeartbeats 4000000 in
theorem blank_any (w : World) (b o c : Nat) (en ve : Int) (dv rv : Value) (S : ByteArray) (hS : S.size = 4096) (hb : w.cell? ⟨b, o, none⟩ = some (.string S)) (hd : DataIs w dv) :
    Calls Tryz.prog 27 #[.agg #[.slice (some ⟨b, o, none⟩) 1 c, .int .u16 en, .int .u16 ve, dv, rv]] w (fun e w' => ∃ r z cap, e = .returned (.slice (some ⟨r, 0, none⟩) 1 cap) ∧ w.heap.size ≤ r ∧ w.heap.size ≤ z ∧ r ≠ z ∧ OwnX w' (.slice (some ⟨r, 0, none⟩) 1 cap) [.slice (some ⟨z, 0, none⟩) 4096 4096] ∧ w'.heap[z]? = some (.cells zeros4 5 (0, 0)) ∧ Low w.heap.size w w') := by
  have a1 := heap_new w (imC b o c (.int .u16 en) (.int .u16 ve) dv rv)
  have l1 : Low w.heap.size w (w.alloc (imC b o c (.int .u16 en) (.int .u16 ve) dv rv)) := (Low.refl _ _).alloc (Nat.le_refl _) _
  have hb1 := l1.cellv hb
  have hd1 := hd.low l1
  have HB := Lib.hid hb; have HD := Lib.hid hd
  clear hb hd
  go_enter Tryz.func27, Tryz.ntmps27
  go_upto_region 3 with fail
  obtain ⟨g, hg⟩ : ∃ g, g = w.heap.size := ⟨_, rfl⟩
  rw [← hg] at a1 ⊢
  have HG : Hid (g = w.heap.size) := Lib.hid hg
  clear hg
  generalize w.alloc (imC b o c (.int .u16 en) (.int .u16 ve) dv rv) = w1 at a1 l1 hb1 hd1 ⊢
  have A1 := Lib.hid a1; have L1 := Lib.hid l1; have HB1 := Lib.hid hb1; have HD1 := Lib.hid hd1
  clear a1 l1 hb1 hd1
  go_loopw [3, 4] (fun t i wr => (t = .slice none 0 0 ∧ i = .int .i64 0 ∧ wr = w1) ∨ (i = .int .i64 1 ∧ ∃ r z cap, t = .slice (some ⟨r, 0, none⟩) 1 cap ∧ w.heap.size ≤ r ∧ w.heap.size ≤ z ∧ r ≠ z ∧ OwnX wr (.slice (some ⟨r, 0, none⟩) 1 cap) [.slice (some ⟨z, 0, none⟩) 4096 4096] ∧ wr.heap[z]? = some (.cells zeros4 5 (0, 0)) ∧ Low w1.heap.size w1 wr)) (fun _ i _ => 1 - (intOf i).toNat)
  case atStart => exact .inl ⟨rfl, rfl, rfl⟩
  case round =>
    rcases hrel with ⟨rfl, rfl, rfl⟩ | ⟨rfl, r, z, cap, rfl, hr, hz, hrz, hO, hZ, hL⟩
    · have hr : (Instr.makeSlice 64 (.int .i64 4096) (.int .i64 4096)).run Tryz.prog wr = .ok (.slice (some ⟨wr.heap.size, 0, none⟩) 4096 4096) (wr.alloc (.cells zeros4 5)) := by
        obtain ⟨ti, hti, h⟩ := info_of (α := Unit) (show (Tryz.prog.info? 5).map (fun i => (i.zero, i.size, i.bytes)) = some (some (.int .u8 0), 1, 1) by kernel_rfl)
        simp only [Prod.mk.injEq] at h
        obtain ⟨hz, hs, hb⟩ := h
        have h1 : ((ti.bytes : Nat) : Int) * ((4096 : Nat) : Int) ≤ 281474976710656 := by rw [hb]; omega
        have hr := run_make (P := Tryz.prog) wr 64 5 ti (.int .u8 0) Tryz.underlying64 hti hz .i64 .i64 (4096 : Nat) (4096 : Nat) (by omega) (Int.le_refl _) h1 (by omega)
        rw [hs] at hr
        exact hr
      have y0 := cell_of (j := 0) A1.out
      have s0 := HB1.out
      have a2 := heap_new wr (.cells zeros4 5)
      have l2 : Low wr.heap.size wr (wr.alloc (.cells zeros4 5)) := (Low.refl _ _).alloc (Nat.le_refl _) _
      have hs4 : (S.size : Int) = 4096 := by omega
      go_upto_region 7 with fail
      obtain ⟨z, hz⟩ : ∃ z, z = wr.heap.size := ⟨_, rfl⟩
      rw [← hz] at a2 ⊢
      have HZ0 : Hid (z = wr.heap.size) := Lib.hid hz
      clear hz hr
      generalize wr.alloc (.cells zeros4 5) = w2 at a2 l2 ⊢
      have A2 := Lib.hid a2; have L2 := Lib.hid l2
      clear a2 l2 y0 s0
      go_loopw [6] (fun i wr' => ∃ k : Nat, k ≤ 4096 ∧ i = .int .i64 k ∧ Low w2.heap.size w2 wr') (fun i _ => 4096 - (intOf i).toNat)
      case atStart => exact ⟨0, by decide, rfl, Low.refl _ _⟩
      case round =>
        obtain ⟨k, hk, rfl, hL⟩ := hrel
        have HL := Lib.hid hL
        have LL := Lib.hid (L2.out.trans (hL.mono L2.out.size))
        rcases Nat.lt_or_ge k 4096 with hlt | hge
        · have hd1 : decide ((k : Int) < 4096) = true := by simp; omega
          have y3 := cell_of (j := 3) (LL.out.some A1.out)
          have hw1 : IntKind.u16.wrap (k : Int) = k := Go.IntWalk.u16_in _ (by omega)
          have hw2 : IntKind.i64.wrap ((k : Int) + 1) = k + 1 := Go.IntWalk.i64_in _ (by omega)
          have hob := objectAt_any wr dv (HD1.out.low LL.out) k
          clear hL
          go_wp2_with (first
            | (go_at_call 42
               refine hob.mono ?_
               rintro e w3 ⟨rfl, l3⟩
               have L3 := Lib.hid (HL.out.trans ((Low.of_below l3).mono HL.out.size))
               clear l3))
          exact ⟨⟨k + 1, hlt, rfl, L3.out⟩, by simp [intOf]; omega⟩
        · have e : k = 4096 := by omega
          subst e
          have hd1 : decide (((4096 : Nat) : Int) < 4096) = false := by decide
          have A3 := Lib.hid (hL.some A2.out)
          have y0 := cell_of (j := 0) (LL.out.some A1.out)
          clear hL
          go_upto_region 12 with fail
          have a4 := heap_new wr (.cells #[.slice (some ⟨z, 0, none⟩) 4096 4096] 64)
          have l4 : Low wr.heap.size wr (wr.alloc (.cells #[.slice (some ⟨z, 0, none⟩) 4096 4096] 64)) := (Low.refl _ _).alloc (Nat.le_refl _) _
          have hS1 : Hid (w.heap.size ≤ wr.heap.size) := Lib.hid (Nat.le_trans L1.out.size LL.out.size)
          obtain ⟨v', w5, hrun, happ⟩ := append_one (ty := 43) ap43 (Own.nil (wr.alloc (.cells #[.slice (some ⟨z, 0, none⟩) 4096 4096] 64)) wr.heap.size 64 1) (c := 1) (m := 1) a4 rfl (fun u hu => by simp at hu; subst hu; rfl) (by decide) l4.size
          obtain ⟨r, cap, cs, rfl, hr1, hr2, hr3, hO⟩ := happ.row (k := 1) rfl (by decide)
          have LW := Lib.hid (l4.trans (happ.low (Own.nil _ _ _ _) (Nat.le_refl _) l4.size))
          have HO : Hid (OwnX w5 (.slice (some ⟨r, 0, none⟩) 1 cap) [.slice (some ⟨z, 0, none⟩) 4096 4096]) := Lib.hid ⟨_, hO⟩
          have hzl : z < w2.heap.size := heap_lt A2.out
          have hzw : wr.heap.size ≤ r := hr1
          have HRZ : Hid (w.heap.size ≤ r ∧ w.heap.size ≤ z ∧ r ≠ z) := Lib.hid ⟨by have := hS1.out; omega, by have := HZ0.out; have := L1.out.size; omega, by have := HL.out.size; omega⟩
          have A5 := Lib.hid (LW.out.some A3.out)
          clear hO hr1 hr2 hr3 happ a4 l4 hzl hzw
          go_wp2_with (first
            | (at_builtin; refine wpList_known rfl (.tmp 48) (.tmp 50) rfl rfl rfl hrun ?_))
          exact ⟨.inr ⟨rfl, r, z, cap, rfl, HRZ.out.1, HRZ.out.2.1, HRZ.out.2.2, HO.out, A5.out, LL.out.trans (LW.out.mono LL.out.size)⟩, by simp [intOf]⟩
    · have HO := Lib.hid hO; have HZ := Lib.hid hZ; have HL := Lib.hid hL; have HR := Lib.hid (And.intro hr (And.intro hz hrz))
      have y0 := cell_of (j := 0) (hL.some A1.out)
      clear hO hZ hL hr hz hrz
      go_wp2_with fail
      refine bodyPost_ret (by simp [results, Tryz.results27, go_sem]; try rfl) rfl ?_
      exact ⟨r, z, cap, rfl, HR.out.1, HR.out.2.1, HR.out.2.2, HO.out, HZ.out, L1.out.trans (HL.out.mono L1.out.size)⟩
end Go.Proofs.YtnbicnmniodjpaaGreat
