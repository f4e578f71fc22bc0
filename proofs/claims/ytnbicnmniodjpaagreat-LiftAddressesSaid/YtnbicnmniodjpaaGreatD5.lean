/- The seat's hooks are sound. -/
import Derived.Test.YtnbicnmniodjpaaGreatA2
import Derived.Test.YtnbicnmniodjpaaGreatD4
set_option linter.unusedSimpArgs false
set_option linter.unusedVariables false
set_option linter.unusedSectionVars false
namespace Go.Proofs.YtnbicnmniodjpaaGreat
open Go.RowKit Go.Eng
set_option linter.unusedVariables false
set_option linter.unusedSectionVars false
set_option maxRecDepth 100000
theorem only_low {w w' : World} (h : Low w.heap.size w w') : Only w w' := ⟨h.block, h.size, h.os, h.out, fun a ha => by unfold World.frozen?; rw [h.block _ ha]⟩
theorem low_only {w w' : World} (h : Only w w') : Low w.heap.size w w' := ⟨h.os, h.out, h.size, h.low⟩
theorem low_below {w w' : World} (h : Below w.heap.size w w') : Low w.heap.size w w' := Low.of_below h
variable [Sym] [Hooks]
theorem hookGet_ok : HookOK Tryz.prog 104 hookGet := by
  intro call hcall B args st k kp hk ρ w args' hs ha
  refine ⟨⟨Tryz.f104, _, Tryz.func104, rfl, by decide⟩, ?_⟩
  unfold hookGet at hk
  simp only [] at hk
  split at hk <;> (try (cases hk; done))
  rename_i a b c l
  rw [natK_eq] at hk
  obtain ⟨al⟩ := args'
  cases ha with
  | cons _ _ _ _ h1 h2 =>
  cases h2
  cases h1 with
  | str _ s hstr =>
  have hlt : ∀ x ∈ a :: b :: c :: l, x < 256 := by
    rw [← hstr]
    intro x hx
    obtain ⟨u, _, rfl⟩ := List.mem_map.1 hx
    exact u.toNat_lt
  refine (get_any w s a b c l hstr (hlt a (by simp)) (hlt b (by simp))).mono ?_
  rintro e w' ⟨rfl, hb⟩
  have hO := only_low (low_below hb)
  exact .inl ⟨_, st, ρ, _, rfl, hk, hO.rel hs, .int _ _, hO.adv hs⟩
theorem zeros4_get (i : Nat) (h : i < 4096) : zeros4[i]? = some (.int .u8 0) := by
  unfold zeros4
  rw [← Array.getElem?_toList, toList_madeCells_one, List.getElem?_replicate, if_pos h]
theorem zeros4_size : zeros4.size = 4096 := by
  unfold zeros4
  rw [← Array.length_toList, toList_madeCells_one, List.length_replicate]
theorem zeroR_rel (ρ : Rho) (z : Nat) : RecRel ρ 0 ⟨z, 0, 4096⟩ zeroR (some (.cells zeros4 5 (0, 0))) := by
  unfold zeroR
  refine ⟨zeros4, 0, 0, rfl, fun _ => ⟨rfl, rfl⟩, fun i h1 h2 => by omega, zeros4_size, ⟨Nat.le_refl _, fun i x hx => ?_⟩, fun i v tag h1 h2 h3 h4 => ?_, fun _ i h1 h2 => h2⟩
  · rw [Tr.get_fullT hx]; exact Nat.le_refl _
  · have e := Tr.get_fullT h2
    cases e
    exact ⟨_, zeros4_get i h1, .int _ _⟩
theorem dataOk_is {B : Nat → Prop} {ρ : Rho} {st : St} {w : World} (hs : SRel B ρ st w) {v : AV} {v' : Value} (hv : VRel ρ v v') (h : dataOk st v = true) : DataIs w v' := by
  unfold dataOk at h
  split at h
  · cases hv; exact .inl rfl
  · rename_i id ep off cap ex
    split at h <;> (try (cases h; done))
    rename_i a s h0 h1 h2
    obtain ⟨cap', o, p, rfl, hp, hb, hc1, he, hl, ho, hsz⟩ := hv.slice_inv
    have ho' : o = off - p.base := ho (by omega)
    subst ho'
    obtain ⟨v0, a0, b0⟩ := hs.cell hp hb h0
    obtain ⟨v1, a1, b1⟩ := hs.cell hp (by omega) h1
    obtain ⟨v2, a2, b2⟩ := hs.cell hp (by omega) h2
    cases b0; cases b1; cases b2
    refine .inr ⟨p.blk, off - p.base, cap', a, s, rfl, a0, ?_, ?_⟩
    · rw [show off - p.base + 1 = off + 1 - p.base by omega]; exact a1
    · rw [show off - p.base + 2 = off + 2 - p.base by omega]; exact a2
  · cases h
theorem hookBlank_ok : HookOK Tryz.prog 27 hookBlank := by
  intro call hcall B args st k kp hk ρ w args' hs ha
  refine ⟨⟨Tryz.f27, _, Tryz.func27, rfl, by decide⟩, ?_⟩
  unfold hookBlank at hk
  simp only [] at hk
  split at hk <;> (try (cases hk; done))
  rename_i id ep off cap ex esz en ve data rel
  rw [cellK_eq] at hk
  split at hk <;> (try (cases hk; done))
  rename_i v hc
  split at hk <;> (try (cases hk; done))
  rename_i l
  split at hk <;> (try (cases hk; done))
  rename_i hb
  rw [Bool.and_eq_true] at hb
  have hlen := Nat.eq_of_beq_eq_true hb.1
  rw [newK_eq, newK_eq] at hk
  obtain ⟨al⟩ := args'
  cases ha with
  | cons _ _ _ _ h1 h2 =>
  cases h2
  cases h1 with
  | agg _ A1 hA1 =>
  obtain ⟨A1⟩ := A1
  cases hA1 with
  | cons _ _ _ _ g1 hA1 =>
  cases hA1 with
  | cons _ _ _ _ g2 hA1 =>
  cases hA1 with
  | cons _ _ _ _ g3 hA1 =>
  cases hA1 with
  | cons _ _ _ _ g4 hA1 =>
  cases hA1 with
  | cons _ _ _ _ g5 hA1 =>
  cases hA1
  cases g2; cases g3
  obtain ⟨cap', o, p, rfl, hp, hbb, hc1, he, hl, ho, hsz⟩ := g1.slice_inv
  obtain ⟨v', hv1, hv2⟩ := hs.cell hp hbb hc
  cases hv2 with
  | str _ s hstr =>
  have ho' : o = off - p.base := ho (by omega)
  subst ho'
  have hs4 : s.size = 4096 := by
    have := congrArg List.length hstr
    rw [List.length_map, Array.length_toList, hlen] at this
    exact this
  refine (blank_any w p.blk (off - p.base) cap' en ve _ _ s hs4 hv1 (dataOk_is hs g4 hb.2)).mono ?_
  rintro e w' ⟨r, z, c, rfl, hr, hz, hrz, ⟨Bs, hO⟩, hZ, hL⟩
  have hOn := only_low hL
  have hs1 := hOn.rel hs
  have hold : ∀ id ep q, ρ id ep = some q → q.blk < w.heap.size := fun id ep q hq => (hs.mapped _ _ _ hq).2.1
  have hBl : ∀ b, B b → b < w.heap.size := hs.low
  obtain ⟨h0, hO | ⟨g', c', cur, k1, k2, k3, k4, k5, k6, k7⟩⟩ := hO
  · cases hO.1
  cases k1
  obtain ⟨s2, d2⟩ := hs1.adopt (p := ⟨z, 0, 4096⟩) (r := zeroR) (fun hb => by have := hBl z hb; omega) (heap_lt hZ) (fun id ep q hq e => by have := hold id ep q hq; have e : q.blk = z := e; omega) (by rw [hZ]; exact zeroR_rel _ z)
  have hn : (ρ.add st.next 0 ⟨z, 0, 4096⟩) st.next 0 = some ⟨z, 0, 4096⟩ := Rho.add_same _ _ _ _
  obtain ⟨s3, d3⟩ := s2.adopt (p := ⟨r, 0, c⟩) (r := recOf 64 [.slice st.next 0 0 4096 4096 true 1]) (fun hb => by have := hBl r hb; omega) (heap_lt k3) (fun id ep q hq e => by
    unfold Rho.add at hq
    split at hq
    · cases hq; exact hrz e.symm
    · have := hold id ep q hq; have e : q.blk = r := e; omega) (by
    rw [k3]
    refine ⟨cur, 0, 0, rfl, fun _ => ⟨rfl, rfl⟩, fun i h1 h2 => by omega, by rw [k6]; simp, ⟨Nat.le_refl _, fun i x hx => ?_⟩, fun i v tag q1 q2 q3 q4 => ?_, fun _ i q1 q2 => ?_⟩
    · rw [rowTr_lf] at hx
      obtain ⟨v, _, rfl⟩ := Option.map_eq_some_iff.1 hx
      exact Nat.le_refl _
    · have hi : i = 0 := by simpa using q1
      subst hi
      rw [rowTr_lf] at q2
      simp at q2
      obtain ⟨rfl, _⟩ := q2
      refine ⟨.slice (some ⟨z, 0, none⟩) 4096 4096, ?_, ?_⟩
      · have : (cur.toList.take (1 * 1))[0]? = some (.slice (some ⟨z, 0, none⟩) 4096 4096) := by rw [k7]; rfl
        rw [List.getElem?_take, if_pos (by decide)] at this
        simpa using this
      · refine .slice _ _ _ _ _ _ _ 4096 0 ⟨z, 0, 4096⟩ ?_ (Nat.le_refl _) (Nat.le_refl _) (fun _ => rfl) (Nat.le_refl _) (fun _ => rfl) (fun _ => by show 0 - 0 + 4096 * 1 ≤ 4096; decide)
        exact Rho.add_le (s2.none_of_ge (Nat.le_refl _) 0) _ _ _ hn
    · have hi : i < 1 := q2
      show i - 0 < c
      omega)
  refine .inl ⟨_, _, _, _, rfl, hk, s3, ?_, ((hOn.adv hs).trans d2).trans d3⟩
  exact .slice _ _ _ _ _ _ _ c 0 ⟨r, 0, c⟩ (Rho.add_same _ _ _ _) (Nat.le_refl _) k4 (fun h => by cases h) (Nat.le_refl _) (fun _ => rfl) (fun _ => by show 0 - 0 + c * 1 ≤ c; omega)
end Go.Proofs.YtnbicnmniodjpaaGreat
