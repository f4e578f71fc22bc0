/- Instructions that a function must not contain have their errors: for all numbers and all instructions before, the statement's call returns true, and its arguments read as before. No condition. -/
import Derived.Test.YtjkaoejcdboaiaaGreatQ5
import Derived.Test.YtjkaoejcdboaiaaGreatRows
import Derived.ProofKit
import Derived.WideKeyArr2
import Derived.Deep.Frames
set_option linter.unusedSimpArgs false
set_option linter.unusedVariables false
set_option linter.unusedSectionVars false
namespace Go.Proofs.YtjkaoejcdboaiaaGreat
open Go.ChangeShapes Go.WideShapes Go.ChangeAt Go.RowKit Go.WideMaps
set_option linter.unusedVariables false
set_option maxRecDepth 100000
theorem Tryz.own : ownKnob Tryz.prog.godebug = none := by kernel_rfl
theorem Tryz.laidOut : laidOutB Tryz.prog = true := by kernel_rfl
theorem Tryz.cells3 : Tryz.prog.cellsOf 3 = 1 := by kernel_rfl
theorem Tryz.cells32 : Tryz.prog.cellsOf 32 = 5 := by kernel_rfl
theorem Low.frame {w w' : World} (h : Low w.heap.size w w') (may : MemPlace → Prop) : w.keptBut w' may := by
  refine ⟨h.os, h.out, fun i hi => ?_⟩
  rw [h.block i hi]
  split <;> simp_all
theorem byte_wf {n : Int} (h : (Lit.int .u8 n).wf = true) : ∃ m : Nat, n = m ∧ m < 256 := by
  simp only [Lit.wf, Bool.and_eq_true, decide_eq_true_eq] at h
  have h1 : IntKind.u8.min = 0 := by decide
  have h2 : IntKind.u8.max = 255 := by decide
  rw [h1, h2] at h
  exact ⟨n.toNat, by omega, by omega⟩
section
variable {H : Type} {enc : TypeId × Value → H} {V : World}
theorem came_byte {v : Value} {d : DataW H} {p : List MemPlace} (h : DataW.Trod enc Tryz.prog V 0 (fun _ => true) true 5 v d p) (hv : ∃ n, v = .int .u8 n) : ∃ n : Nat, v = .int .u8 n ∧ n < 256 ∧ p = [] := by
  obtain ⟨n, rfl⟩ := hv
  obtain ⟨fu, hf⟩ := h
  obtain ⟨m, e, hx, hw⟩ := DataW.trod_int Tryz.underlying5 hf
  simp [Value.cells] at e
  subst e
  simp only [Prod.mk.injEq] at hx
  obtain ⟨m, rfl, hm⟩ := byte_wf hw
  exact ⟨m, rfl, hm, hx.2⟩
theorem five_ints {b : Nat} {sp : Nat → Bool} {hl : Bool} {n : Nat} {cs : List Value} {y : DataW H × List MemPlace} (hf : DataW.trod enc Tryz.prog V b sp hl n 32 cs = some y) : (∃ z0 z1 z2 z3 z4 : Int, cs = [.int .i64 z0, .int .i64 z1, .int .i64 z2, .int .i64 z3, .int .i64 z4]) ∧ y.2 = [] := by
  cases n with
  | zero => simp [DataW.trod] at hf
  | succ m =>
    rw [DataW.trod_step] at hf
    unfold DataW.trodStep at hf
    simp only [Tryz.underlying32] at hf
    by_cases h5 : cs.length = 5
    · obtain ⟨c0, c1, c2, c3, c4, rfl⟩ : ∃ c0 c1 c2 c3 c4, cs = [c0, c1, c2, c3, c4] := by
        match cs, h5 with
        | [c0, c1, c2, c3, c4], _ => exact ⟨c0, c1, c2, c3, c4, rfl⟩
      rw [if_pos (by rw [Tryz.cells32]; rfl)] at hf
      simp only [Option.map_eq_some_iff] at hf
      obtain ⟨ys, hy, e1⟩ := hf
      rw [show List.range 5 = [0, 1, 2, 3, 4] from rfl] at hy
      simp only [List.mapM_cons, bind, Option.bind_eq_some_iff, Tryz.cells3] at hy
      obtain ⟨y0, h0, z0, ⟨y1, h1, z1, ⟨y2, h2, z2, ⟨y3, h3, z3, ⟨y4, h4, z4, hz4, e4⟩, e3⟩, e2⟩, e5⟩, e6⟩ := hy
      obtain ⟨a, ea, f0, _⟩ := DataW.trod_int Tryz.underlying3 h0
      obtain ⟨b, eb, f1, _⟩ := DataW.trod_int Tryz.underlying3 h1
      obtain ⟨c, ec, f2, _⟩ := DataW.trod_int Tryz.underlying3 h2
      obtain ⟨d, ed, f3, _⟩ := DataW.trod_int Tryz.underlying3 h3
      obtain ⟨e, ee, f4, _⟩ := DataW.trod_int Tryz.underlying3 h4
      simp at ea eb ec ed ee
      refine ⟨⟨a, b, c, d, e, by rw [ea, eb, ec, ed, ee]⟩, ?_⟩
      simp only [List.mapM_nil, pure, Option.some.injEq] at hz4 e2 e3 e4 e5 e6
      subst hz4 e4 e3 e2 e5 e6 f0 f1 f2 f3 f4
      rw [← e1]
      rfl
    · rw [if_neg (by rw [Tryz.cells32]; exact h5)] at hf
      cases hf
theorem came_rows {a : Option Addr} {len cap : Nat} {d : DataW H} {p : List MemPlace} (h : DataW.Trod enc Tryz.prog V 0 (fun _ => true) true 22 (.slice a len cap) d p) :
    ArgRow V a len ∧ ∀ x ∈ p, ∀ b, x ≠ .map b := by
  obtain ⟨fu, hf⟩ := h
  rcases DataW.trod_slice Tryz.underlying22 hf with ⟨hcs, hx⟩ | ⟨a', len', cap', elems, rest, n, _, hcs, hx, hb, hl, hm, hlen, hel, hsp, hns⟩
  · simp [Value.cells] at hcs
    obtain ⟨rfl, rfl, rfl⟩ := hcs
    simp only [Prod.mk.injEq] at hx
    obtain ⟨rfl, rfl⟩ := hx
    exact ⟨fun j hj => by omega, by simp⟩
  · simp [Value.cells] at hcs
    obtain ⟨rfl, rfl, rfl⟩ := hcs
    simp only [Prod.mk.injEq] at hx
    obtain ⟨rfl, rfl⟩ := hx
    obtain ⟨hrl, hr⟩ := hsp rfl
    have each : ∀ i y, (elems ++ rest)[i]? = some y → y.2 = [] ∧ ∃ z0 z1 z2 z3 z4 : Int, V.cells? 0 (a'.add (i * 5)) 5 = some [.int .i64 z0, .int .i64 z1, .int .i64 z2, .int .i64 z3, .int .i64 z4] := by
      intro i y hy
      have hb' : (V.cells? 0 (a'.add (i * Tryz.prog.cellsOf 32)) (Tryz.prog.cellsOf 32)).bind (DataW.trod enc Tryz.prog V 0 (fun _ => true) true n 32) = some y := by
        by_cases hi : i < len
        · rw [hel i hi, ← hy, List.getElem?_append_left (by omega)]
        · have hi' : i - len < rest.length := by
            have := (List.getElem?_eq_some_iff.1 hy).1
            simp at this
            omega
          have := hr (i - len) (by omega)
          rw [show len + (i - len) = i by omega] at this
          rw [this, ← hy, List.getElem?_append_right (by omega), hlen]
      rw [Tryz.cells32, Option.bind_eq_some_iff] at hb'
      obtain ⟨cs', hcs, hy'⟩ := hb'
      obtain ⟨⟨z0, z1, z2, z3, z4, rfl⟩, h2⟩ := five_ints hy'
      exact ⟨h2, z0, z1, z2, z3, z4, hcs⟩
    refine ⟨fun j hj => ?_, fun x hx b e => ?_⟩
    · obtain ⟨_, z0, z1, z2, z3, z4, hc⟩ := each j (elems[j]'(by omega)) (by rw [List.getElem?_append_left (by omega), List.getElem?_eq_getElem])
      have hk := (World.cells?_some hc).2.2
      obtain ⟨g, o, spot⟩ := a'
      have k0 := hk 0 (by omega); have k1 := hk 1 (by omega); have k2 := hk 2 (by omega); have k3 := hk 3 (by omega); have k4 := hk 4 (by omega)
      simp only [List.getElem?_cons_zero, List.getElem?_cons_succ] at k0 k1 k2 k3 k4
      have hspot : spot = .none := by
        obtain ⟨_, y0, y1, y2, y3, y4, hc'⟩ := each 0 (elems[0]'(by omega)) (by rw [List.getElem?_append_left (by omega), List.getElem?_eq_getElem])
        have q := (World.cells?_some hc').2.2 0 (by omega)
        simp only [List.getElem?_cons_zero, Nat.zero_mul, Addr.add, if_true] at q
        simpa using World.cell?_spot q
      subst hspot
      have e : ∀ i, ((⟨g, o, .none⟩ : Addr).add (j * 5)).add i = ⟨g, o + j * 5 + i, .none⟩ := fun i => by
        by_cases h0 : i = 0 <;> by_cases h1 : j * 5 = 0 <;> simp [Addr.add, h0, h1]
      rw [e] at k0 k1 k2 k3 k4
      exact ⟨⟨g, o, .none⟩, z0, z1, z2, z3, z4, rfl, rfl, k0, k1, k2, k3, k4⟩
    · rcases List.mem_append.1 hx with h | h
      · obtain ⟨j, _, rfl⟩ := MemPlace.mem_row.1 h
        cases e
      · obtain ⟨y, hy, hxy⟩ := List.mem_flatMap.1 h
        obtain ⟨i, hi⟩ := List.getElem?_of_mem hy
        rw [(each i y hi).1] at hxy
        cases hxy
end
set_option maxRecDepth 100000 in
set_option maxHeartbeats 1600000 in
theorem law_lifted (os : Os) (started : os.Started) (H : Type) (enc : TypeId × Value → H) :
    ReturnsInHanded {} Tryz.checked os 3 .any (Rows.witnessFrameErrorsSpec.pre6 enc Tryz.prog Tryz.f3 Rows.witnessFrameErrorsRow.domain false) (Rows.witnessFrameErrorsSpec.post enc Tryz.prog Tryz.f3 false true false false) := by
  refine returnsInHanded_of_change (C := Tryz.checked) Tryz.own started (by kernel_rfl) Tryz.func3
    (ChangeSpec.witness6 (enc := enc) (C := Tryz.checked) false ⟨#[], #[.int .u8 0, .slice none 0 0], []⟩ 8 (by kernel_rfl) (by kernel_rfl) (by kernel_rfl) (by kernel_rfl)) ?_
  intro V base args ds gs before hval0 hW hcnd _
  have hval : ∀ (j : Nat) t v, Tryz.f3.params[j]? = some t → args[j]? = some v → Value.okWide Tryz.prog V .any base t v := hval0
  have hW' := hW
  obtain ⟨p, q, hA0, hV, rfl, hfz, hnd⟩ := hW
  have hA : DataW.TrodAll enc Tryz.prog V 0 (fun _ => true) true Tryz.f3.params.toList args.toList ds p := hA0
  rw [Tryz.params3] at hA hval
  obtain ⟨v0, v1, d0, d1, p0, p1, rfl, rfl, rfl, h0, h1⟩ := trodAll_two hA
  obtain ⟨rfl, rfl⟩ := trodVars_none hV
  have hi0 := okWide_int Tryz.underlying5 (hval 0 5 v0 rfl rfl)
  obtain ⟨a1, lb, cb, rfl⟩ := okWide_slice Tryz.underlying22 (hval 1 22 v1 rfl rfl)
  obtain ⟨z, rfl, hz, rfl⟩ := came_byte h0 hi0
  clear hA0 hval0
  simp only [List.append_nil, List.nil_append] at hW'
  obtain ⟨hin1, hm1⟩ := came_rows h1
  have hlt : ∀ x ∈ p1, x.block < V.heap.size := fun x hx => by simpa using hW'.lt x (by simpa using hx)
  refine (law_any V z hz a1 lb cb hin1).mono fun e V' ⟨he, hlow⟩ => ?_
  have hk := hlow.frame (fun _ => False)
  subst he
  refine ⟨_, rfl, ?_⟩
  have A0 : DataW.Trod enc Tryz.prog V' 0 (fun x => decide (x < V.heap.size)) true 5 (.int .u8 z) d0 [] :=
    WideElems.Trod_stays Tryz.laidOut (by kernel_rfl) (of_decide_eq_true (by kernel_rfl)) h0 (fun x hx => by cases hx) (fun x hx => by cases hx)
  have A1 : DataW.Trod enc Tryz.prog V' 0 (fun x => decide (x < V.heap.size)) true 22 (.slice a1 lb cb) d1 p1 :=
    WideElems.Trod_stays Tryz.laidOut (by kernel_rfl) (of_decide_eq_true (by kernel_rfl)) h1
      (fun x hx => hk.sameAt (hlt x hx) (fun f => f) (fun bb e => absurd e (hm1 x hx bb))) (fun x hx => by simpa using hlt x hx)
  have RES : DataW.Trod enc Tryz.prog V' V.heap.size (fun _ => false) false 4 (.bool true) (.lit (.bool true)) [] := ⟨1, by simp [DataW.trod, Value.cells, Tryz.underlying4]⟩
  exact ⟨_, _, _, [], p1, [], hW', trodAll_mk1 RES, trodAll_mk2 A0 A1, rfl, World.keptBut_mono (fun _ f => f.elim) hk, fun h => by cases h⟩
theorem witnessFrameErrors_holds : Rows.WitnessFrameErrorsSaid :=
  OpenClaim.holds_of_wide 3 Tryz.f3 rfl rfl rfl rfl rfl rfl rfl ⟨rfl, rfl, rfl, rfl, rfl⟩ rfl rfl rfl rfl rfl (by kernel_rfl) Tryz.func3 (by kernel_rfl)
    (of_decide_eq_true (by kernel_rfl)) (by unfold Func.isWrapper; first | (rw [if_pos (by decide +kernel)]; kernel_rfl) | (rw [if_neg (by decide +kernel)]; exact ⟨rfl, rfl⟩))
    (fun os started H enc _ => law_lifted os started H enc)
#print axioms witnessFrameErrors_holds
end Go.Proofs.YtjkaoejcdboaiaaGreat
