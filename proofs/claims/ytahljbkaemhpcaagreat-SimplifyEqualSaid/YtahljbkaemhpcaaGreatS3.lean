/- Equal of the package simplify compares all fields: for all numbers from which two programs are made, and all changes of the first one, the statement's call returns true, and its arguments read as before. No condition. -/
import Derived.Test.YtahljbkaemhpcaaGreatS2
import Derived.ProofKit
import Derived.WideKeyArr2
import Derived.Deep.Frames
namespace Go.Proofs.YtahljbkaemhpcaaGreat
open Go.ChangeShapes Go.WideShapes Go.ChangeAt Go.RowKit Go.WideMaps
set_option linter.unusedVariables false
theorem Tryz.own : ownKnob Tryz.prog.godebug = none := by kernel_rfl
theorem Tryz.laidOut : laidOutB Tryz.prog = true := by kernel_rfl
theorem Tryz.cells3 : Tryz.prog.cellsOf 3 = 1 := by kernel_rfl
theorem Tryz.cells23 : Tryz.prog.cellsOf 23 = 3 := by kernel_rfl
theorem arr23 : ArrKey Tryz.prog 23 3 3 := ⟨Tryz.underlying23, by kernel_rfl, by kernel_rfl, Tryz.cells23⟩
section
variable {H : Type} {enc : TypeId × Value → H} {W : World}
/-- What a slice of numbers that came in is. -/
theorem came_in {a : Option Addr} {len cap : Nat} {d : DataW H} {p : List MemPlace} (h : DataW.Trod enc Tryz.prog W 0 (fun _ => true) true 22 (.slice a len cap) d p) :
    len ≤ 9223372036854775807 ∧ (∀ j, j < len → ∃ (g o : Nat) (z : Int), a = some ⟨g, o, .none⟩ ∧ W.cell? ⟨g, o + j, .none⟩ = some (.int .i64 z)) ∧ ∀ x ∈ p, ∀ b, x ≠ .map b := by
  obtain ⟨fu, hf⟩ := h
  rcases open_ints Tryz.underlying22 Tryz.underlying3 Tryz.cells3 hf with ⟨hcs, hx⟩ | ⟨a', len', cap', zs, hcs, _, hl, hm, hz, hx, hcell, hwz⟩
  · simp [Value.cells] at hcs
    obtain ⟨rfl, rfl, rfl⟩ := hcs
    simp only [Prod.mk.injEq] at hx
    obtain ⟨rfl, rfl⟩ := hx
    exact ⟨by omega, fun j hj => by omega, by simp⟩
  · simp [Value.cells] at hcs
    obtain ⟨rfl, rfl, rfl⟩ := hcs
    simp only [Prod.mk.injEq] at hx
    obtain ⟨rfl, rfl⟩ := hx
    simp only [if_true] at hz
    have hmax : maxLen = 9223372036854775807 := rfl
    refine ⟨by omega, fun j hj => ?_, fun x hx b e => ?_⟩
    · obtain ⟨g, o, spot⟩ := a'
      have hspot : spot = .none := by simpa [Addr.add] using World.cell?_spot (hcell 0 (by omega))
      subst hspot
      have e : (⟨g, o, .none⟩ : Addr).add j = ⟨g, o + j, .none⟩ := by
        by_cases h0 : j = 0
        · subst h0; simp [Addr.add]
        · simp [Addr.add, h0]
      exact ⟨g, o, zs.getD j 0, rfl, by rw [← e]; exact hcell j (by omega)⟩
    · obtain ⟨j, _, rfl⟩ := MemPlace.mem_row.1 hx
      cases e
theorem three_ints {xs : Array Value} {d : DataW H} {p : List MemPlace} {base : Nat} {sp : Nat → Bool} {held : Bool} (hn : xs.size = 3) (h : DataW.Trod enc Tryz.prog W base sp held 23 (.agg xs) d p) : (∃ a b c : Int, xs = #[.int .i64 a, .int .i64 b, .int .i64 c]) ∧ p = [] := by
  obtain ⟨l⟩ := xs
  obtain ⟨c0, c1, c2, rfl⟩ : ∃ c0 c1 c2, l = [c0, c1, c2] := by
    match l, hn with
    | [c0, c1, c2], _ => exact ⟨c0, c1, c2, rfl⟩
  obtain ⟨fuel, hf⟩ := h
  cases fuel with
  | zero => simp [DataW.trod] at hf
  | succ m =>
    rw [DataW.trod_step] at hf
    unfold DataW.trodStep at hf
    simp only [arr23.hu, Value.cells] at hf
    rw [if_pos (by rw [arr23.size]; rfl)] at hf
    simp only [Option.map_eq_some_iff] at hf
    obtain ⟨ys, hy, e1⟩ := hf
    rw [show List.range 3 = [0, 1, 2] from rfl] at hy
    simp only [List.mapM_cons, bind, Option.bind_eq_some_iff, Tryz.cells3] at hy
    obtain ⟨y0, h0, z0, ⟨y1, h1, z1, ⟨y2, h2, z2, hz2, e2⟩, e3⟩, e4⟩ := hy
    obtain ⟨a, ea, f0, _⟩ := DataW.trod_int Tryz.underlying3 h0
    obtain ⟨b, eb, f1, _⟩ := DataW.trod_int Tryz.underlying3 h1
    obtain ⟨c, ec, f2, _⟩ := DataW.trod_int Tryz.underlying3 h2
    simp at ea eb ec
    refine ⟨⟨a, b, c, by rw [ea, eb, ec]⟩, ?_⟩
    simp only [List.mapM_nil, pure, Option.some.injEq] at hz2 e2 e3 e4
    subst hz2 e2 e3 e4 f0 f1 f2
    simp only [Prod.mk.injEq] at e1
    rw [← e1.2]
    rfl
end
set_option maxRecDepth 100000 in
set_option maxHeartbeats 1600000 in
theorem law_lifted (os : Os) (started : os.Started) (H : Type) (enc : TypeId × Value → H) :
    ReturnsInHanded {} Tryz.checked os 3 .any (Rows.simplifyEqualSpec.pre6 enc Tryz.prog Tryz.f3 Rows.simplifyEqualRow.domain false) (Rows.simplifyEqualSpec.post enc Tryz.prog Tryz.f3 false true false false) := by
  refine returnsInHanded_of_change (C := Tryz.checked) Tryz.own started (by kernel_rfl) Tryz.func3
    (ChangeSpec.witness6 (enc := enc) (C := Tryz.checked) false ⟨#[], #[.slice none 0 0, .slice none 0 0, .agg #[.int .i64 0, .int .i64 0, .int .i64 0]], []⟩ 8 (by kernel_rfl) (by kernel_rfl) (by kernel_rfl) (by kernel_rfl)) ?_
  intro W base args ds gs before hval0 hW hcnd _
  have hval : ∀ (j : Nat) t v, Tryz.f3.params[j]? = some t → args[j]? = some v → Value.okWide Tryz.prog W .any base t v := hval0
  have hW' := hW
  obtain ⟨p, q, hA0, hV, rfl, hfz, hnd⟩ := hW
  have hA : DataW.TrodAll enc Tryz.prog W 0 (fun _ => true) true Tryz.f3.params.toList args.toList ds p := hA0
  rw [Tryz.params3] at hA hval
  obtain ⟨v0, v1, v2, d0, d1, d2, p0, p1, p2, rfl, rfl, rfl, h0, h1, h2⟩ := trodAll_three hA
  obtain ⟨rfl, rfl⟩ := trodVars_none hV
  obtain ⟨a0, la, ca, rfl⟩ := okWide_slice Tryz.underlying22 (hval 0 22 v0 rfl rfl)
  obtain ⟨a1, lb, cb, rfl⟩ := okWide_slice Tryz.underlying22 (hval 1 22 v1 rfl rfl)
  obtain ⟨xs, rfl, hxs⟩ := okWide_arr arr23 (hval 2 23 v2 rfl rfl)
  clear hA0 hval0
  simp only [List.append_nil] at hW'
  obtain ⟨hla, hin0, hm0⟩ := came_in h0
  obtain ⟨hlb, hin1, hm1⟩ := came_in h1
  obtain ⟨⟨x0, x1, x2, rfl⟩, rfl⟩ := three_ints hxs h2
  have hlt : ∀ x ∈ p0 ++ p1 ++ [], x.block < W.heap.size := fun x hx => by simpa using hW'.lt x hx
  refine (law_any W a0 a1 la ca lb cb x0 x1 x2 hla hlb hin0 hin1).mono fun e W' ⟨he, hk⟩ => ?_
  subst he
  refine ⟨_, rfl, ?_⟩
  have A0 : DataW.Trod enc Tryz.prog W' 0 (fun x => decide (x < W.heap.size)) true 22 (.slice a0 la ca) d0 p0 :=
    WideElems.Trod_stays Tryz.laidOut (by kernel_rfl) (of_decide_eq_true (by kernel_rfl)) h0
      (fun x hx => hk.sameAt (hlt x (by simp [hx])) (fun f => f) (fun bb e => absurd e (hm0 x hx bb))) (fun x hx => by simpa using hlt x (by simp [hx]))
  have A1 : DataW.Trod enc Tryz.prog W' 0 (fun x => decide (x < W.heap.size)) true 22 (.slice a1 lb cb) d1 p1 :=
    WideElems.Trod_stays Tryz.laidOut (by kernel_rfl) (of_decide_eq_true (by kernel_rfl)) h1
      (fun x hx => hk.sameAt (hlt x (by simp [hx])) (fun f => f) (fun bb e => absurd e (hm1 x hx bb))) (fun x hx => by simpa using hlt x (by simp [hx]))
  have A2 : DataW.Trod enc Tryz.prog W' 0 (fun x => decide (x < W.heap.size)) true 23 (.agg #[.int .i64 x0, .int .i64 x1, .int .i64 x2]) d2 [] :=
    WideElems.Trod_stays Tryz.laidOut (by kernel_rfl) (of_decide_eq_true (by kernel_rfl)) h2 (fun x hx => by cases hx) (fun x hx => by cases hx)
  have RES : DataW.Trod enc Tryz.prog W' W.heap.size (fun _ => false) false 4 (.bool true) (.lit (.bool true)) [] := ⟨1, by simp [DataW.trod, Value.cells, Tryz.underlying4]⟩
  exact ⟨_, _, _, [], p0 ++ (p1 ++ []), [], hW', trodAll_mk1 RES, trodAll_mk3 A0 A1 A2, rfl, World.keptBut_mono (fun _ f => f.elim) hk, fun h => by cases h⟩
theorem simplifyEqual_holds : Rows.SimplifyEqualSaid :=
  OpenClaim.holds_of_wide 3 Tryz.f3 rfl rfl rfl rfl rfl rfl rfl ⟨rfl, rfl, rfl, rfl, rfl⟩ rfl rfl rfl rfl rfl (by kernel_rfl) Tryz.func3 (by kernel_rfl)
    (of_decide_eq_true (by kernel_rfl)) (by unfold Func.isWrapper; first | (rw [if_pos (by decide +kernel)]; kernel_rfl) | (rw [if_neg (by decide +kernel)]; exact ⟨rfl, rfl⟩))
    (fun os started H enc _ => law_lifted os started H enc)
end Go.Proofs.YtahljbkaemhpcaaGreat
