/- needed: value 0 alone. -/
import Derived.Test.YtnjdegjpmbdboaaGreatQL
namespace Go.Proofs.YtnjdegjpmbdboaaGreat
open Go.RowKit
set_option linter.unusedVariables false
/-- What is noted of what an operation's result depends on. -/
def FromI (wa : World) (fm : Nat) (m : List (Int × Value)) (r : Int) : Nat → World → Prop
  | 0, wx => Chs [fm] wa wx ∧ IMap wx fm m
  | _ + 1, wx => Chs [fm] wa wx ∧ ∃ v, IMap wx fm (putI m r v)
theorem from_inv (wa : World) (fm : Nat) (m : List (Int × Value)) (r : Int) (hf : fm < wa.heap.size) : ∀ c, Inv2 wa.heap.size (FromI wa fm m r c) := by
  have key : ∀ (J : World → Prop), (∀ w w', J w → w'.heap[fm]? = w.heap[fm]? → J w') → Inv2 wa.heap.size (fun wx => Chs [fm] wa wx ∧ J wx) := fun J hJ => by
    refine ⟨fun w o h => ?_, fun w g i v h1 h2 h => ?_⟩
    · have hl : Low wa.heap.size w (w.alloc o) := (Low.refl _ w).alloc h.1.size o
      exact ⟨h.1.tail hl, hJ _ _ h.2 (hl.block _ hf)⟩
    · have hl : Low wa.heap.size w (w.setCell ⟨g, i, none⟩ v) := (Low.refl _ w).setCell h1 v
      exact ⟨h.1.tail hl, hJ _ _ h.2 (hl.block _ hf)⟩
  intro c
  cases c with
  | zero => exact key _ fun w w' h hk => h.keep hk
  | succ c => exact key _ fun w w' ⟨v, h⟩ hk => ⟨v, h.keep hk⟩
theorem from_keeps (wa : World) (z fm ob : Nat) (code r n : Int) (m : List (Int × Value)) (hz : wa.heap[z]? = some (.cells #[.map (some fm)] 127 (0, 0))) (hm : IMap wa fm m) (hr : getI m r = none)
    (ho : wa.heap[ob]? = some (.cells #[.int .i64 code, .int .i64 r, .int .i64 0, .int .i64 0, .int .u16 n, .slice none 0 0] 33 (0, 0))) :
    KeepsN wa.heap.size 1 (FromI wa fm m r) 88 #[] #[.pointer (some ⟨z, 0, none⟩), .pointer (some ⟨ob, 0, none⟩)] := fun c w1 hc h1 hs => by
  obtain rfl : c = 0 := by omega
  have hzf : z ∉ [fm] := by
    rw [List.mem_singleton]
    rintro rfl
    obtain ⟨es, cl, hg, _⟩ := hm
    rw [hz] at hg; cases hg
  have hof : ob ∉ [fm] := by
    rw [List.mem_singleton]
    rintro rfl
    obtain ⟨es, cl, hg, _⟩ := hm
    rw [ho] at hg; cases hg
  have hfl := hm.lt
  refine (from_note w1 z fm ob code r n m (h1.1.obj hz hzf) h1.2 hr (h1.1.obj ho hof)).mono ?_
  rintro e w2 ⟨rfl, hc, v, hv⟩
  exact ⟨rfl, ⟨h1.1.trans hc, v, hv⟩, hc.size, fun g hg hg2 => hc.block g hg2 (by simp; omega)⟩
/-- What is noted behind the first q operations. -/
def FromQ (w : World) (fm : Nat) (l : List Opn) (q : Nat) : Prop := ∃ m, IMap w fm m ∧ ∀ p ∈ m, ∃ j o, j < q ∧ l[j]? = some o ∧ p.1 = o.res ∧ 0 < p.1
theorem getI_none {m : List (Int × Value)} {r : Int} (h : ∀ p ∈ m, p.1 ≠ r) : getI m r = none := by
  unfold getI
  rw [List.find?_eq_none.2 (fun p hp => by simpa using h p hp)]
  rfl
theorem putI_key {p : Int × Value} {r : Int} {v : Value} {m : List (Int × Value)} (h : p ∈ putI m r v) : p ∈ m ∨ p.1 = r := by
  rcases putI_mem m h with h | h
  · exact .inl h
  · exact .inr (by rw [h])
theorem FromQ.fresh {w : World} {fm : Nat} {l : List Opn} {q : Nat} (h : FromQ w fm l q) (hi : Inc l) {o : Opn} (ho : l[q]? = some o) (hp : 0 < o.res) : ∃ m, IMap w fm m ∧ getI m o.res = none ∧ ∀ w' v, IMap w' fm (putI m o.res v) → FromQ w' fm l (q + 1) := by
  obtain ⟨m, hm, hk⟩ := h
  refine ⟨m, hm, getI_none fun p hpm => ?_, fun w' v hv => ⟨_, hv, fun p hp' => ?_⟩⟩
  · obtain ⟨j, o', hj, ho', e, h0⟩ := hk p hpm
    obtain ⟨hjl, hje⟩ := List.getElem?_eq_some_iff.1 ho'
    obtain ⟨hql, hqe⟩ := List.getElem?_eq_some_iff.1 ho
    have := List.pairwise_iff_getElem.1 hi j q hjl hql hj
    rw [hje, hqe] at this
    have := this (by rw [← e]; exact h0) hp
    omega
  · rcases putI_key hp' with h | h
    · obtain ⟨j, o', hj, ho', e, h0⟩ := hk p h
      exact ⟨j, o', by omega, ho', e, h0⟩
    · exact ⟨q, o, by omega, ho, h, by omega⟩
theorem FromQ.more {w : World} {fm : Nat} {l : List Opn} {q : Nat} (h : FromQ w fm l q) : FromQ w fm l (q + 1) := by
  obtain ⟨m, hm, hk⟩ := h
  exact ⟨m, hm, fun p hp => by
    obtain ⟨j, o', hj, r⟩ := hk p hp
    exact ⟨j, o', by omega, r⟩⟩
theorem FromQ.keep {w w' : World} {fm : Nat} {l : List Opn} {q : Nat} (h : FromQ w fm l q) (hk : w'.heap[fm]? = w.heap[fm]?) : FromQ w' fm l q := by
  obtain ⟨m, hm, hp⟩ := h
  exact ⟨m, hm.keep hk, hp⟩
theorem FromQ.zero {w : World} {fm : Nat} {l : List Opn} {q : Nat} (h : FromQ w fm l q) : (Instr.lookup 127 (.map (some fm)) (.int .i64 0) false).run Tryz.prog w = .ok (.slice none 0 0) w := by
  obtain ⟨m, hm, hp⟩ := h
  exact from_none hm (getI_none fun p hpm => by
    obtain ⟨j, o', hj, _, _, h0⟩ := hp p hpm
    omega)
theorem NA.off {nb z5 z6 fm : Nat} {good : Nat → Prop} {w : World} {m : List (Int × Value)} (h : NA nb z5 z6 good w) (hm : IMap w fm m) : NA nb z5 z6 (fun g => g ≠ fm) w := by
  refine ⟨h.c5, ?_⟩
  rcases h.st with h1 | ⟨h1, g, c, cs, h2, h3, h4, h5, h6⟩
  · exact .inl h1
  · refine .inr ⟨h1, g, c, cs, ?_, h3, h4, h5, h6⟩
    rintro rfl
    obtain ⟨es, cl, hg, _⟩ := hm
    rw [h5] at hg; cases hg
theorem NA.lts {nb z5 z6 : Nat} {good : Nat → Prop} {w : World} (h : NA nb z5 z6 good w) : nb < w.heap.size ∧ z5 < w.heap.size ∧ z6 < w.heap.size := by
  refine ⟨?_, heap_lt h.c5, ?_⟩
  · rcases h.st with ⟨h, _⟩ | ⟨h, _⟩ <;> exact h.lt
  · rcases h.st with ⟨_, h⟩ | ⟨_, _, _, _, _, _, h, _⟩ <;> exact heap_lt h
/-- The maps and variables of needed. -/
theorem five {w : World} {nb z5 z6 fm z8 : Nat} (h0 : nb = w.heap.size) (h1 : z5 = nb + 1) (h2 : z6 = nb + 1 + 1) (h3 : fm = nb + 1 + 1 + 1) (h4 : z8 = nb + 1 + 1 + 1 + 1) :
    ∀ w5, w5 = ((((w.alloc (.map #[] 0)).alloc (.cells #[.map (some nb)] 94)).alloc (.cells #[.slice none 0 0] 22)).alloc (.map #[] 0)).alloc (.cells #[.map (some fm)] 127) →
    Low w.heap.size w w5 ∧ NA nb z5 z6 (fun g => g ≠ fm) w5 ∧ IMap w5 fm [] ∧ w5.heap[z8]? = some (.cells #[.map (some fm)] 127 (0, 0)) := by
  rintro w5 rfl
  subst h1 h2 h3 h4
  obtain ⟨a1, s1, u1⟩ := alloc_at (.map #[] 0) h0.symm
  obtain ⟨a2, s2, u2⟩ := alloc_at (.cells #[.map (some nb)] 94) s1
  obtain ⟨a3, s3, u3⟩ := alloc_at (.cells #[.slice none 0 0] 22) s2
  obtain ⟨a4, s4, u4⟩ := alloc_at (.map #[] 0) s3
  obtain ⟨a5, s5, u5⟩ := alloc_at (.cells #[.map (some (nb + 1 + 1 + 1))] 127) s4
  refine ⟨((((((Low.refl _ w).alloc (Nat.le_refl _) _).alloc (by omega) _).alloc (by omega) _).alloc (by omega) _).alloc (by omega) _), ⟨?_, .inl ⟨⟨#[], 0, ?_, ents_nil⟩, ?_⟩⟩, ⟨#[], 0, ?_, ents_nil⟩, a5⟩
  · exact u5 _ _ (u4 _ _ (u3 _ _ a2))
  · exact u5 _ _ (u4 _ _ (u3 _ _ (u2 _ _ a1)))
  · exact u5 _ _ (u4 _ _ a3)
  · exact u5 _ _ a4
/-- What stands at the loop's head. -/
def NQ (w : World) (nb z5 z6 fm z8 : Nat) (l : List Opn) (q : Nat) (wx : World) : Prop := Low w.heap.size w wx ∧ NA nb z5 z6 (fun g => g ≠ fm) wx ∧ FromQ wx fm l q ∧ wx.heap[z8]? = some (.cells #[.map (some fm)] 127 (0, 0))
theorem NQ.low {w wx wy : World} {nb z5 z6 fm z8 : Nat} {l : List Opn} {q : Nat} (h : NQ w nb z5 z6 fm z8 l q wx) (hl : Low wx.heap.size wx wy) : NQ w nb z5 z6 fm z8 l q wy := by
  obtain ⟨h1, h2, h3, h4⟩ := h
  have hf : fm < wx.heap.size := by
    obtain ⟨m, hm, _⟩ := h3
    exact hm.lt
  refine ⟨h1.trans (hl.mono h1.size), h2.keep fun b hb => ?_, h3.keep (hl.block _ hf), hl.some h4⟩
  refine hl.block _ ?_
  rcases hb with rfl | rfl | rfl | ⟨_, hb⟩
  · rcases h2.st with ⟨h, _⟩ | ⟨h, _⟩ <;> exact h.lt
  · exact heap_lt h2.c5
  · rcases h2.st with ⟨_, h⟩ | ⟨_, _, _, _, _, _, h, _⟩ <;> exact heap_lt h
  · exact hb
/-- What stands at the second loop's head. -/
structure NP (w : World) (nb z5 z6 fm z8 : Nat) (l : List Opn) (n : Nat) (wx : World) : Prop where
  lo : Low w.heap.size w wx
  sep : w.heap.size ≤ z6 ∧ z6 ≠ z5 ∧ z6 ≠ nb ∧ z6 ≠ fm ∧ z6 ≠ z8
  mp : ∃ m, IMap wx nb m ∧ ∀ p ∈ m, p.1 = 0
  fr : FromQ wx fm l n
  c5 : wx.heap[z5]? = some (.cells #[.map (some nb)] 94 (0, 0))
  c8 : wx.heap[z8]? = some (.cells #[.map (some fm)] 127 (0, 0))
  st : (∃ X c, wx.heap[z6]? = some (.cells #[.slice X 0 c] 22 (0, 0))) ∨ ∃ g c cs, wx.heap[z6]? = some (.cells #[.slice (some ⟨g, 0, none⟩) 1 c] 22 (0, 0)) ∧ 1 ≤ c ∧ wx.heap[g]? = some (.cells cs 3 (0, 0)) ∧ cs[0]? = some (.int .i64 0)
theorem NP.of {w wx : World} {nb z5 z6 fm z8 : Nat} {l : List Opn} {n : Nat} (h : NQ w nb z5 z6 fm z8 l n wx) (hs : w.heap.size ≤ z6 ∧ z6 ≠ z5 ∧ z6 ≠ nb ∧ z6 ≠ fm ∧ z6 ≠ z8) : NP w nb z5 z6 fm z8 l n wx := by
  obtain ⟨h1, h2, h3, h4⟩ := h
  refine ⟨h1, hs, ?_, h3, h2.c5, h4, ?_⟩
  · rcases h2.st with ⟨h, _⟩ | ⟨h, _⟩
    · exact ⟨_, h, by simp⟩
    · exact ⟨_, h, by simp⟩
  · rcases h2.st with ⟨_, h⟩ | ⟨_, g, c, cs, _, a, b, d, e⟩
    · exact .inl ⟨_, _, h⟩
    · exact .inr ⟨g, c, cs, b, a, d, e⟩
theorem NP.pop {w wx : World} {nb z5 z6 fm z8 : Nat} {l : List Opn} {n : Nat} (h : NP w nb z5 z6 fm z8 l n wx) {v : Value} (h6 : wx.heap[z6]? = some (.cells #[v] 22 (0, 0))) {X : Option Addr} {c' : Nat} : NP w nb z5 z6 fm z8 l n (wx.setCell ⟨z6, 0, none⟩ (.slice X 0 c')) := by
  obtain ⟨s0, s1, s2, s3, s4⟩ := h.sep
  refine ⟨h.lo.setCell s0 _, h.sep, ?_, h.fr.keep (set_other (Ne.symm s3)), (set_other (Ne.symm s1)).trans h.c5, (set_other (Ne.symm s4)).trans h.c8, .inl ⟨X, c', set_blk h6⟩⟩
  obtain ⟨m, hm, hp⟩ := h.mp
  exact ⟨m, hm.keep (set_other (Ne.symm s2)), hp⟩
def lenAt (w : World) (z : Nat) : Nat :=
  match w.cell? ⟨z, 0, none⟩ with
  | some (.slice _ n _) => n
  | _ => 0
theorem lenAt_of {w : World} {z : Nat} {cs : Array Value} {e : TypeId} {fr : Nat × Nat} {X : Option Addr} {n c : Nat} (h : w.heap[z]? = some (.cells cs e fr)) (h0 : cs[0]? = some (.slice X n c)) : lenAt w z = n := by
  unfold lenAt
  rw [cell_of h, h0]
theorem head_none (g c : Nat) (hc : 1 ≤ c) : ∃ X c', ∀ u, (Instr.slice 22 (.slice (some ⟨g, 0, none⟩) 1 c) none (some (.int .i64 0)) none).run Tryz.prog u = .ok (.slice X 0 c') u := by
  have hu := Tryz.underlying22
  have h3 : ∀ u, (sizeOf 3).run Tryz.prog u = .ok 1 u := fun u => by kernel_rfl
  refine ⟨some ⟨g, 0, none⟩, c, fun u => ?_⟩
  simp [Instr.slice, go_sem, run_underlying hu, h3, Addr.add]
set_option maxRecDepth 100000 in
set_option maxHeartbeats 8000000 in
theorem needed_any (w : World) (gr bk al df nm ob cm om : Nat) (next : Int) (Pp : Option Addr) (pc : Nat) (A : Option Addr) (n c : Nat) (T : Option Addr) (tc : Nat) (l : List Opn) (h : Gr w gr bk al df nm ob cm om next Pp pc A n c T tc l) (r cr : Nat) (hr : w.cell? ⟨r, 0, none⟩ = some (.pointer (some ⟨bk, 0, none⟩))) (hcr : 1 ≤ cr) :
    Calls Tryz.prog 53 #[.pointer (some ⟨gr, 0, none⟩), .slice (some ⟨r, 0, none⟩) 1 cr] w (fun e w' => Low w.heap.size w w' ∧ ∃ nb m, e = .returned (.map (some nb)) ∧ IMap w' nb m ∧ ∀ p ∈ m, p.1 = 0) := by
  have hmf : ∀ (fn : Fn) (first cap : Array Value) (w : World), (Instr.makeFunc fn first cap).run Tryz.prog w = .ok (.func fn first cap) w := fun _ _ _ _ => rfl
  have hmm : ∀ u : World, (Instr.makeMap 94 none).run Tryz.prog u = .ok (.map (some u.heap.size)) (u.alloc (.map #[] 0)) := fun u => by kernel_rfl
  have hmk : ∀ u : World, (Instr.makeMap 127 none).run Tryz.prog u = .ok (.map (some u.heap.size)) (u.alloc (.map #[] 0)) := fun u => by kernel_rfl
  have H := Lib.hid h
  clear h
  go_enter Tryz.func53, Tryz.ntmps53
  go_upto_region 5 with fail
  obtain ⟨nb, hnb⟩ : ∃ nb, nb = w.heap.size := ⟨_, rfl⟩
  obtain ⟨z5, hz5⟩ : ∃ z5, z5 = nb + 1 := ⟨_, rfl⟩
  obtain ⟨z6, hz6⟩ : ∃ z6, z6 = nb + 1 + 1 := ⟨_, rfl⟩
  obtain ⟨fm, hfm⟩ : ∃ fm, fm = nb + 1 + 1 + 1 := ⟨_, rfl⟩
  obtain ⟨z8, hz8⟩ : ∃ z8, z8 = nb + 1 + 1 + 1 + 1 := ⟨_, rfl⟩
  rw [← hnb, ← hz8, ← hfm, ← hz6, ← hz5]
  have h5 := five hnb hz5 hz6 hfm hz8 _ rfl
  generalize ((((w.alloc (.map #[] 0)).alloc (.cells #[.map (some nb)] 94)).alloc (.cells #[.slice none 0 0] 22)).alloc (.map #[] 0)).alloc (.cells #[.map (some fm)] 127) = w5 at h5 ⊢
  obtain ⟨l5, n5, f5, c5⟩ := h5
  have N5 := Lib.hid (show NQ w nb z5 z6 fm z8 l 0 w5 from ⟨l5, n5, ⟨[], f5, by simp⟩, c5⟩)
  have x5 : w5.cell? ⟨r, 0, none⟩ = some (.pointer (some ⟨bk, 0, none⟩)) := (World.cell?_of_block (a := ⟨r, 0, none⟩) (l5.block r (cell_lt hr))).trans hr
  have b5 : w5.cell? ⟨bk, 1, none⟩ = some (.slice A n c) := cell_of (H.out.low l5).b
  have HE := Lib.hid (show nb = w.heap.size ∧ z5 = nb + 1 ∧ z6 = nb + 1 + 1 ∧ fm = nb + 1 + 1 + 1 ∧ z8 = nb + 1 + 1 + 1 + 1 from ⟨hnb, hz5, hz6, hfm, hz8⟩)
  clear hmm hmk n5 f5 c5 l5 hnb hz5 hz6 hfm hz8
  have hn12 : n ≤ 12 := H.out.small
  go_wp2_with fail
  go_loopw [23] (fun i wr => (i = .int .i64 0 ∧ wr = w5) ∨ (i = .int .i64 1 ∧ NQ w nb z5 z6 fm z8 l n wr)) (fun i _ => 1 - (intOf i).toNat)
  case atStart => exact .inl ⟨rfl, rfl⟩
  case round =>
    rcases hrel with ⟨rfl, rfl⟩ | ⟨rfl, hN⟩
    · have hng : n ≤ 12 := hn12
      go_wp2_with fail
      obtain ⟨w5, rfl⟩ : ∃ u, u = wr := ⟨_, rfl⟩
      clear x5 b5
      go_loopw [32] (fun i wx => ∃ q : Nat, i = .int .i64 q ∧ q ≤ n ∧ NQ w nb z5 z6 fm z8 l q wx) (fun i _ => n - (intOf i).toNat)
      case atStart => exact ⟨0, rfl, by omega, N5.out⟩
      case round =>
        obtain ⟨wv, rfl⟩ : ∃ u, u = wr := ⟨_, rfl⟩
        obtain ⟨q, rfl, hq, hN⟩ := hrel
        have gv := H.out.low hN.1
        by_cases hlt : q < n
        · have hlt' : (q : Int) < (n : Int) := by omega
          have hq0 : (0 : Int) ≤ (q : Int) := by omega
          have hqn : (q : Int) ≤ 12 := by omega
          obtain ⟨o, ho⟩ : ∃ o, l[q]? = some o := ⟨_, List.getElem?_eq_getElem (by have := gv.ops.1; omega)⟩
          obtain ⟨g, cs, rfl, hnc, hg, k0, k1, k2, k3, k4, k5⟩ := gv.ops.2 q o ho
          have c0 : wv.cell? ⟨g, q * 6, none⟩ = some (.int .i64 o.code) := (cell_of hg).trans k0
          have c1 : wv.cell? ⟨g, q * 6 + 1, none⟩ = some (.int .i64 o.res) := (cell_of hg).trans k1
          have c2 : wv.cell? ⟨g, q * 6 + 2, none⟩ = some (.int .i64 0) := (cell_of hg).trans k2
          have c3 : wv.cell? ⟨g, q * 6 + 3, none⟩ = some (.int .i64 0) := (cell_of hg).trans k3
          have c4 : wv.cell? ⟨g, q * 6 + 4, none⟩ = some (.int .u16 o.n) := (cell_of hg).trans k4
          have c5 : wv.cell? ⟨g, q * 6 + 5, none⟩ = some (.slice none 0 0) := (cell_of hg).trans k5
          have okc := gv.ok o (List.mem_of_getElem? ho)
          have l9 : Low wv.heap.size wv (wv.alloc (.cells #[.int .i64 o.code, .int .i64 o.res, .int .i64 0, .int .i64 0, .int .u16 o.n, .slice none 0 0] 33)) := (Low.refl _ _).alloc (Nat.le_refl _) _
          have a9 := heap_new wv (.cells #[.int .i64 o.code, .int .i64 o.res, .int .i64 0, .int .i64 0, .int .u16 o.n, .slice none 0 0] 33)
          go_upto_region 11 with fail
          clear c0 c1 c2 c3 c4 c5 k0 k1 k2 k3 k4 k5 hg
          obtain ⟨ob', hob⟩ : ∃ ob', ob' = wv.heap.size := ⟨_, rfl⟩
          have N9 := Lib.hid (hN.low l9)
          have g9 := gv.low l9
          rw [← hob] at a9 ⊢
          generalize wv.alloc (.cells #[.int .i64 o.code, .int .i64 o.res, .int .i64 0, .int .i64 0, .int .u16 o.n, .slice none 0 0] 33) = wa at a9 N9 g9 ⊢
          have x0 : wa.cell? ⟨ob', 0, none⟩ = some (.int .i64 o.code) := cell_of a9
          have x1 : wa.cell? ⟨ob', 1, none⟩ = some (.int .i64 o.res) := cell_of a9
          have x2 : wa.cell? ⟨ob', 2, none⟩ = some (.int .i64 0) := cell_of a9
          have x3 : wa.cell? ⟨ob', 3, none⟩ = some (.int .i64 0) := cell_of a9
          have x4 : wa.cell? ⟨ob', 4, none⟩ = some (.int .u16 o.n) := cell_of a9
          have x5 : wa.cell? ⟨ob', 5, none⟩ = some (.slice none 0 0) := cell_of a9
          have hP := pure_any wa gr nm o (cell_of g9.g) g9.nm_ okc.1
          have G9 := Lib.hid g9; have A9 := Lib.hid a9
          clear hN gv l9 a9 g9 hob
          by_cases h3 : o.code = 3
          · have hp : (o.code == 3) = true := by simp [h3]
            rw [hp] at hP
            have H3 := Lib.hid h3
            clear h3 hp
            go_upto_region 12 with (first
              | (go_at_call 58; with_reducible refine hP.mono ?_; rintro e w6 ⟨rfl, l6⟩))
            have a6 := l6.some A9.out
            have N6 := N9.out.low l6
            clear x0 x1 x2 x3 x4 x5 hP
            have x0 : w6.cell? ⟨ob', 0, none⟩ = some (.int .i64 o.code) := cell_of a6
            have x1 : w6.cell? ⟨ob', 1, none⟩ = some (.int .i64 o.res) := cell_of a6
            have x2 : w6.cell? ⟨ob', 2, none⟩ = some (.int .i64 0) := cell_of a6
            have x3 : w6.cell? ⟨ob', 3, none⟩ = some (.int .i64 0) := cell_of a6
            have x4 : w6.cell? ⟨ob', 4, none⟩ = some (.int .u16 o.n) := cell_of a6
            have x5 : w6.cell? ⟨ob', 5, none⟩ = some (.slice none 0 0) := cell_of a6
            have hres : 0 < o.res := okc.2.2.1 (by rw [H3.out]; rfl)
            obtain ⟨m, hm, hmn, hnext⟩ := N6.2.2.1.fresh H.out.inc ho hres
            have hcount : opCount o.code = 1 := by rw [H3.out]; rfl
            have hmap := mapOp_n (FromI w6 fm m o.res) w6 o 88 #[] #[.pointer (some ⟨z8, 0, none⟩), .pointer (some ⟨ob', 0, none⟩)] (from_inv w6 fm m o.res hm.lt) ⟨Chs.refl _ _, hm⟩ okc.1 enters88 (by rw [hcount]; exact from_keeps w6 z8 fm ob' o.code o.res o.n m N6.2.2.2 hm hmn a6)
            rw [hcount] at hmap
            have hfin : Hid (∀ w7, FromI w6 fm m o.res 1 w7 → NQ w nb z5 z6 fm z8 l (q + 1) w7) := Lib.hid (by
              rintro w7 ⟨hc7, v, hv⟩
              have hfl := hm.lt
              obtain ⟨t1, t2, t3⟩ := N6.2.1.lts
              obtain ⟨hnb, hz5, hz6, hfm, hz8⟩ := HE.out
              refine ⟨N6.1.trans (hc7.low (by simp; omega) N6.1.size), N6.2.1.keep fun b hb => hc7.block b ?_ ?_, hnext _ _ hv, hc7.obj N6.2.2.2 (by simp; omega)⟩
              · omega
              · simp only [List.mem_singleton]
                omega)
            clear hm hmn hnext a6 N6
            go_wp2_with (first
              | (go_at_call 35; with_reducible refine hmap.mono ?_; rintro e w7 ⟨rfl, h7⟩))
            exact ⟨⟨q + 1, rfl, hlt, hfin.out _ h7⟩, by show n - ((q : Int) + 1).toNat < n - ((q : Int)).toNat; omega⟩
          · have hp : (o.code == 3) = false := by simp [h3]
            rw [hp] at hP
            clear h3 hp
            go_upto_region 13 with (first
              | (go_at_call 58; with_reducible refine hP.mono ?_; rintro e w6 ⟨rfl, l6⟩))
            have a6 := l6.some A9.out
            have N6 := N9.out.low l6
            clear x0 x1 x2 x3 x4 x5 hP
            have x0 : w6.cell? ⟨ob', 0, none⟩ = some (.int .i64 o.code) := cell_of a6
            have x1 : w6.cell? ⟨ob', 1, none⟩ = some (.int .i64 o.res) := cell_of a6
            have x2 : w6.cell? ⟨ob', 2, none⟩ = some (.int .i64 0) := cell_of a6
            have x3 : w6.cell? ⟨ob', 3, none⟩ = some (.int .i64 0) := cell_of a6
            have x4 : w6.cell? ⟨ob', 4, none⟩ = some (.int .u16 o.n) := cell_of a6
            have x5 : w6.cell? ⟨ob', 5, none⟩ = some (.slice none 0 0) := cell_of a6
            obtain ⟨t1, t2, t3⟩ := N6.2.1.lts
            have hmap := mapOp_n (fun _ wx => Chs [nb, z6] w6 wx ∧ NA nb z5 z6 (fun g => g < w6.heap.size ∨ w6.heap.size + 2 ≤ g) wx) w6 o 87 #[] #[.pointer (some ⟨z5, 0, none⟩), .pointer (some ⟨z6, 0, none⟩)] (fun _ => need_inv nb z5 z6 w6 t1 t2 t3) ⟨Chs.refl _ _, N6.2.1.more fun b hb _ => .inl hb⟩ okc.1 enters87 (need_keeps nb z5 z6 (opCount o.code) w6 (by obtain ⟨hnb, hz5, hz6, hfm, hz8⟩ := HE.out; omega) t1 t3)
            have hfin : Hid (∀ w7, Chs [nb, z6] w6 w7 → NA nb z5 z6 (fun g => g < w6.heap.size ∨ w6.heap.size + 2 ≤ g) w7 → NQ w nb z5 z6 fm z8 l (q + 1) w7) := Lib.hid (by
              intro w7 hc7 hn7
              obtain ⟨hnb, hz5, hz6, hfm, hz8⟩ := HE.out
              have hf7 := N6.2.2.1.more.keep (hc7.block fm (by obtain ⟨m, hm, _⟩ := N6.2.2.1; exact hm.lt) (by simp; omega))
              have hf8 := hf7
              obtain ⟨m7, hm7, _⟩ := hf8
              exact ⟨N6.1.trans (hc7.low (by simp; omega) N6.1.size), hn7.off hm7, hf7, hc7.obj N6.2.2.2 (by simp; omega)⟩)
            clear a6 N6 t1 t2 t3
            go_wp2_with (first
              | (go_at_call 35; with_reducible refine hmap.mono ?_; rintro e w7 ⟨rfl, h7, n7⟩))
            exact ⟨⟨q + 1, rfl, hlt, hfin.out _ h7 n7⟩, by show n - ((q : Int) + 1).toNat < n - ((q : Int)).toNat; omega⟩
        · have hlt' : ¬ (q : Int) < (n : Int) := by omega
          obtain rfl : q = n := by omega
          have hrd := blockReads_any wv bk (cell_of gv.b) (cell_of gv.b)
          have NV := Lib.hid hN; have GV := Lib.hid gv
          clear hN gv
          go_upto_region 17 with (first
            | (go_at_call 47; with_reducible refine hrd.mono ?_; rintro e w6 ⟨rfl, l6⟩))
          have N6 := Lib.hid (NV.out.low l6)
          have y6 : w6.cell? ⟨bk, 4, none⟩ = some (.slice T 0 tc) := cell_of (GV.out.low l6).b
          clear l6 hrd
          go_wp2_with fail
          go_loopw [59] (fun i wr => i = .int .i64 0 ∧ wr = w6) (fun _ _ => 0)
          case atStart => exact ⟨rfl, rfl⟩
          case round =>
            obtain ⟨rfl, rfl⟩ := hrel
            go_wp2_with fail
            exact ⟨.inr ⟨rfl, N6.out⟩, by decide⟩
    · have N6 := Lib.hid hN
      have h0 : Hid (NP w nb z5 z6 fm z8 l n wr) := Lib.hid (NP.of hN (by obtain ⟨hnb, hz5, hz6, hfm, hz8⟩ := HE.out; omega))
      obtain ⟨w6, rfl⟩ : ∃ u, u = wr := ⟨_, rfl⟩
      clear hN x5 b5 N5 N6
      go_wp2_with fail
      go_loopw [] (fun wr => NP w nb z5 z6 fm z8 l n wr) (fun wr => lenAt wr z6)
      case atStart => exact h0.out
      case round =>
        obtain ⟨wy, rfl⟩ : ∃ u, u = wr := ⟨_, rfl⟩
        have hst := hrel.st
        have y5 : wy.cell? ⟨z5, 0, none⟩ = some (.map (some nb)) := cell_of hrel.c5
        rcases hst with ⟨X, c', h6⟩ | ⟨g, c', cs, h6, hc1, hg, hg0⟩
        · have y6 : wy.cell? ⟨z6, 0, none⟩ = some (.slice X 0 c') := cell_of h6
          have N6 := Lib.hid hrel
          clear hrel h6
          go_wp2_with fail
          go_ret
          exact ⟨N6.out.lo, nb, N6.out.mp.choose, rfl, N6.out.mp.choose_spec.1, N6.out.mp.choose_spec.2⟩
        · have y6 : wy.cell? ⟨z6, 0, none⟩ = some (.slice (some ⟨g, 0, none⟩) 1 c') := cell_of h6
          have f6 : wy.frozen? ⟨z6, 0, none⟩ = false := free_of h6
          have yg : wy.cell? ⟨g, 0, none⟩ = some (.int .i64 0) := (cell_of hg).trans hg0
          have y8 : wy.cell? ⟨z8, 0, none⟩ = some (.map (some fm)) := cell_of hrel.c8
          obtain ⟨X, c2, hsl⟩ := head_none g c' hc1
          have hN := hrel.pop h6 (X := X) (c' := c2)
          have N6 := Lib.hid hrel
          have H6 := Lib.hid h6
          clear hrel h6 hg hg0 y5
          go_upto_region 30 with fail
          have L0 := lenAt_of (set_blk (i := 0) (v := .slice X 0 c2) H6.out) (by rfl)
          have L1 := lenAt_of H6.out (show (#[Value.slice (some ⟨g, 0, none⟩) 1 c'] : Array Value)[0]? = some (.slice (some ⟨g, 0, none⟩) 1 c') from rfl)
          have hcmp : Hid (lenAt (wy.setCell ⟨z6, 0, none⟩ (.slice X 0 c2)) z6 < lenAt wy z6) := Lib.hid (by rw [L0, L1]; decide)
          generalize wy.setCell ⟨z6, 0, none⟩ (.slice X 0 c2) = wz at hN hcmp ⊢
          clear y6 f6 yg y8 L0 L1
          have y8 : wz.cell? ⟨z8, 0, none⟩ = some (.map (some fm)) := cell_of hN.c8
          have hz := hN.fr.zero
          have NN := Lib.hid hN
          clear hN
          go_wp2_with (first
            | (go_at_call 34; with_reducible refine (all_nil _ _).mono ?_; rintro e w7 ⟨rfl, rfl⟩))
          exact ⟨NN.out, hcmp.out⟩
end Go.Proofs.YtnjdegjpmbdboaaGreat
