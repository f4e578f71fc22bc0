/- ir's checker: shapes. -/
import Derived.Test.YtnjdegjpmbdboaaGreatRF
namespace Go.Proofs.YtnjdegjpmbdboaaGreat
open Go.RowKit
set_option linter.unusedVariables false
/-- The blocks that may change are maps. -/
def Maps (w : World) (B : List Nat) : Prop := ∀ b ∈ B, ∃ es cl, w.heap[b]? = some (.map es cl)
theorem Maps.off {w : World} {B : List Nat} (h : Maps w B) {b : Nat} {cs : Array Value} {e : TypeId} {fr : Nat × Nat} (hb : w.heap[b]? = some (.cells cs e fr)) : b ∉ B := fun hm => by
  obtain ⟨es, cl, h1⟩ := h b hm
  rw [hb] at h1; cases h1
theorem FnAt.maps {w w' : World} {g : Nat} {Pp : Option Addr} {pc : Nat} {A : Option Addr} {n c : Nat} {T : Option Addr} {tc : Nat} {l : List Opn} {B : List Nat} (h : FnAt w g Pp pc A n c T tc l) (hc : Chs B w w') (hB : Maps w B) : FnAt w' g Pp pc A n c T tc l := by
  obtain ⟨cs3, r0, r1⟩ := h.row
  exact ⟨⟨cs3, hc.obj r0 (hB.off r0), r1⟩, h.ops.chs hc (fun b cs hb => hB.off hb), h.par.chs hc (fun b hb cs hb2 => hB.off hb2 hb), h.ok, h.small, h.inc⟩
theorem cell_maps {w w' : World} {g j : Nat} {v : Value} {B : List Nat} (h : w.cell? ⟨g, j, none⟩ = some v) (hc : Chs B w w') (hB : Maps w B) : w'.cell? ⟨g, j, none⟩ = some v := by
  refine (World.cell?_of_block (hc.block _ (cell_lt h) fun hm => ?_)).trans h
  obtain ⟨es, cl, h1⟩ := hB _ hm
  simp [World.cell?, h1] at h
theorem CallOk.maps {w w' : World} {c : Nat} {B : List Nat} (h : CallOk w c) (hc : Chs B w w') (hB : Maps w B) : CallOk w' c := by
  obtain ⟨Fa, nf, cf, ga, na, ca, a, b, b2, d, e, e2, f⟩ := h
  exact ⟨Fa, nf, cf, ga, na, ca, cell_maps a hc hB, b, b2, cell_maps d hc hB, e, e2, cell_maps f hc hB⟩
/-- What is recorded behind the first q operations: value 0, then results. -/
def Rec (w : World) (g : Nat) (v0 : Int) (l : List Opn) (q : Nat) : Prop := ∃ m, SMap w g ((0, .int .i64 v0) :: m) ∧ ∀ p ∈ m, ∃ j o, j < q ∧ l[j]? = some o ∧ p.1 = o.res ∧ 0 < p.1
theorem Rec.fresh {w : World} {g : Nat} {v0 : Int} {l : List Opn} {q : Nat} (h : Rec w g v0 l q) (hi : Inc l) {o : Opn} (ho : l[q]? = some o) (hp : 0 < o.res) : ∃ m, SMap w g m ∧ getI m o.res = none ∧ ∀ w' x, SMap w' g (m ++ [(o.res, x)]) → Rec w' g v0 l (q + 1) := by
  obtain ⟨m, hm, hk⟩ := h
  refine ⟨_, hm, getI_none fun p hpm => ?_, fun w' x hx => ⟨m ++ [(o.res, x)], hx, fun p hp' => ?_⟩⟩
  · rcases List.mem_cons.1 hpm with rfl | hpm
    · simp; omega
    · obtain ⟨j, o', hj, ho', e, h0⟩ := hk p hpm
      obtain ⟨hjl, hje⟩ := List.getElem?_eq_some_iff.1 ho'
      obtain ⟨hql, hqe⟩ := List.getElem?_eq_some_iff.1 ho
      have := List.pairwise_iff_getElem.1 hi j q hjl hql hj
      rw [hje, hqe] at this
      have := this (by rw [← e]; exact h0) hp
      omega
  · rcases List.mem_append.1 hp' with h | h
    · obtain ⟨j, o', hj, r⟩ := hk p h
      exact ⟨j, o', by omega, r⟩
    · simp at h
      subst h
      exact ⟨q, o, by omega, ho, rfl, hp⟩
theorem Rec.more {w : World} {g : Nat} {v0 : Int} {l : List Opn} {q : Nat} (h : Rec w g v0 l q) : Rec w g v0 l (q + 1) := by
  obtain ⟨m, hm, hk⟩ := h
  exact ⟨m, hm, fun p hp => by
    obtain ⟨j, o', hj, r⟩ := hk p hp
    exact ⟨j, o', by omega, r⟩⟩
theorem Rec.keep {w w' : World} {g : Nat} {v0 : Int} {l : List Opn} {q : Nat} (h : Rec w g v0 l q) (hk : w'.heap[g]? = w.heap[g]?) : Rec w' g v0 l q := by
  obtain ⟨m, hm, hp⟩ := h
  exact ⟨m, hm.keep hk, hp⟩
theorem Rec.isMap {w : World} {g : Nat} {v0 : Int} {l : List Opn} {q : Nat} (h : Rec w g v0 l q) : ∃ es cl, w.heap[g]? = some (.map es cl) := by
  obtain ⟨m, ⟨es, cl, hg, _⟩, _⟩ := h
  exact ⟨es, cl, hg⟩
theorem Rec.lt {w : World} {g : Nat} {v0 : Int} {l : List Opn} {q : Nat} (h : Rec w g v0 l q) : g < w.heap.size := by
  obtain ⟨m, hm, _⟩ := h
  exact hm.imap.lt
theorem Rec.zero {w : World} {g : Nat} {v0 : Int} {l : List Opn} {q : Nat} (h : Rec w g v0 l q) : ∃ m, IMap w g m ∧ getI m 0 = some (.int .i64 v0) := by
  obtain ⟨m, hm, _⟩ := h
  exact ⟨_, hm.imap, by simp [getI]⟩
set_option maxRecDepth 100000 in
set_option maxHeartbeats 8000000 in
theorem shapes_any (w : World) (c bm am g cg : Nat) (cs : Array Value) (Pp : Option Addr) (pc : Nat) (A : Option Addr) (n cc : Nat) (T : Option Addr) (tc : Nat) (l : List Opn) (h : FnAt w g Pp pc A n cc T tc l)
    (hc : w.heap[c]? = some (.cells cs 137 (0, 0))) (h6 : cs[6]? = some (.slice (some ⟨g, 0, none⟩) 1 cg)) (h7 : cs[7]? = some (.map (some bm))) (h8 : cs[8]? = some (.map (some am))) (hne : bm ≠ am) (hb : SMap w bm []) (ha : SMap w am [])
    (hN : ∀ o ∈ l, NOk o) (hres : ∀ o ∈ l, o.res ≤ 65535) (hco : (∃ o ∈ l, o.code = 26) → CallOk w c) :
    Calls Tryz.prog 98 #[.pointer (some ⟨c, 0, none⟩)] w (fun e w' => e = .returned (.bool true) ∧ Chs [bm, am] w w' ∧ Rec w' bm 0 l n ∧ Rec w' am (-1) l n) := by
  have hmaps : Maps w [bm, am] := by
    intro b hb'
    simp only [List.mem_cons, List.not_mem_nil, or_false] at hb'
    rcases hb' with rfl | rfl
    · obtain ⟨es, cl, h, _⟩ := hb; exact ⟨es, cl, h⟩
    · obtain ⟨es, cl, h, _⟩ := ha; exact ⟨es, cl, h⟩
  have hn12 : n ≤ 12 := h.small
  have y6 : w.cell? ⟨c, 6, none⟩ = some (.slice (some ⟨g, 0, none⟩) 1 cg) := (cell_of hc).trans h6
  have HM := Lib.hid hmaps; have H := Lib.hid h; have HC := Lib.hid hc; have H7 := Lib.hid h7; have H8 := Lib.hid h8; have HB := Lib.hid hb; have HA := Lib.hid ha; have HCO := Lib.hid hco; have HNE := Lib.hid hne
  have HNN := Lib.hid hN; have HRES := Lib.hid hres
  clear hmaps h hc h6 h7 h8 hb ha hco hN hres
  go_enter Tryz.func98, Tryz.ntmps98
  go_wp2_with fail
  go_loopw [15] (fun i wr => (i = .int .i64 0 ∧ wr = w) ∨ (i = .int .i64 1 ∧ Chs [bm, am] w wr ∧ Rec wr bm 0 l n ∧ Rec wr am (-1) l n)) (fun i _ => 1 - (intOf i).toNat)
  case atStart => exact .inl ⟨rfl, rfl⟩
  case round =>
    rcases hrel with ⟨rfl, rfl⟩ | ⟨rfl, hC, hR1, hR2⟩
    · obtain ⟨w, rfl⟩ : ∃ u, u = wr := ⟨_, rfl⟩
      obtain ⟨cs0, r0, r1, r2, r3, r4, r5⟩ := H.out.row
      obtain ⟨gp, cp, rfl, hpc, hgp, hp0⟩ := H.out.par
      have p0 : w.cell? ⟨g, 0, none⟩ = some (.slice (some ⟨gp, 0, none⟩) 1 pc) := (cell_of r0).trans r1
      have p1 : w.cell? ⟨g, 1, none⟩ = some (.slice A n cc) := (cell_of r0).trans r2
      have p2 : w.cell? ⟨g, 2, none⟩ = some (.int .i64 4) := (cell_of r0).trans r3
      have p3 : w.cell? ⟨g, 3, none⟩ = some (.int .i64 (-1)) := (cell_of r0).trans r4
      have p4 : w.cell? ⟨g, 4, none⟩ = some (.slice T 0 tc) := (cell_of r0).trans r5
      have l1 : Low w.heap.size w (w.alloc (.cells #[.slice (some ⟨gp, 0, none⟩) 1 pc, .slice A n cc, .int .i64 4, .int .i64 (-1), .slice T 0 tc] 29)) := (Low.refl _ _).alloc (Nat.le_refl _) _
      have a1 := heap_new w (.cells #[.slice (some ⟨gp, 0, none⟩) 1 pc, .slice A n cc, .int .i64 4, .int .i64 (-1), .slice T 0 tc] 29)
      have q0 := (cell_of (j := 0) (l1.some hgp)).trans hp0
      have L1 := Lib.hid l1
      clear r0 r1 r2 r3 r4 r5 hgp hp0 l1
      go_upto_region 4 with fail
      clear p0 p1 p2 p3 p4 y6
      obtain ⟨t4, ht4⟩ : ∃ t, t = w.heap.size := ⟨_, rfl⟩
      rw [← ht4] at a1 ⊢
      have HT4 := Lib.hid ht4
      clear ht4
      generalize w.alloc (.cells #[.slice (some ⟨gp, 0, none⟩) 1 pc, .slice A n cc, .int .i64 4, .int .i64 (-1), .slice T 0 tc] 29) = w1 at a1 q0 L1 ⊢
      have x0 : w1.cell? ⟨t4, 0, none⟩ = some (.slice (some ⟨gp, 0, none⟩) 1 pc) := cell_of a1
      have A1 := Lib.hid a1
      have hdef := define_any w1 c bm am 0 0 (-1) [] [] cs (L1.out.some HC.out) H7.out H8.out hne (HB.out.keep (L1.out.block _ HB.out.imap.lt)) (HA.out.keep (L1.out.block _ HA.out.imap.lt)) rfl rfl (by decide) (by decide)
      clear a1
      go_wp2_with fail
      go_loopw [23] (fun i wr => (i = .int .i64 0 ∧ wr = w1) ∨ (i = .int .i64 1 ∧ Chs [bm, am] w1 wr ∧ Rec wr bm 0 l 0 ∧ Rec wr am (-1) l 0)) (fun i _ => 1 - (intOf i).toNat)
      case atStart => exact .inl ⟨rfl, rfl⟩
      case round =>
        rcases hrel with ⟨rfl, rfl⟩ | ⟨rfl, hC, hR1, hR2⟩
        · obtain ⟨w1, rfl⟩ : ∃ u, u = wr := ⟨_, rfl⟩
          go_wp2_with (first
            | (go_at_call 135; with_reducible refine hdef.mono ?_; rintro e w2 ⟨rfl, hc2, hb2, ha2⟩))
          exact ⟨.inr ⟨rfl, hc2, ⟨[], hb2, by simp⟩, ⟨[], ha2, by simp⟩⟩, by decide⟩
        · obtain ⟨w2, rfl⟩ : ∃ u, u = wr := ⟨_, rfl⟩
          have M1 : Hid (Maps w1 [bm, am]) := Lib.hid (fun b hb => by
            obtain ⟨es, cl, h⟩ := HM.out b hb
            exact ⟨es, cl, L1.out.some h⟩)
          have a2 := hC.obj A1.out (M1.out.off A1.out)
          have x1 : w2.cell? ⟨t4, 1, none⟩ = some (.slice A n cc) := cell_of a2
          have A2 := Lib.hid a2; have C2 := Lib.hid hC; have R1 := Lib.hid hR1; have R2 := Lib.hid hR2
          clear a2 hC hR1 hR2 x0 q0 hdef
          go_wp2_with fail
          go_loopw [36] (fun i wx => ∃ q : Nat, i = .int .i64 q ∧ q ≤ n ∧ Chs [bm, am] w1 wx ∧ Rec wx bm 0 l q ∧ Rec wx am (-1) l q) (fun i _ => n - (intOf i).toNat)
          case atStart => exact ⟨0, rfl, by omega, C2.out, R1.out, R2.out⟩
          case round =>
            obtain ⟨wv, rfl⟩ : ∃ u, u = wr := ⟨_, rfl⟩
            obtain ⟨q, rfl, hq, hC, hR1, hR2⟩ := hrel
            have cwv : Chs [bm, am] w wv := (Chs.of_low L1.out).trans hC
            have hv := H.out.maps cwv HM.out
            by_cases hlt : q < n
            · have hlt' : (q : Int) < (n : Int) := by omega
              have hq0 : (0 : Int) ≤ (q : Int) := by omega
              have hqn : (q : Int) ≤ 12 := by omega
              obtain ⟨o, ho⟩ : ∃ o, l[q]? = some o := ⟨_, List.getElem?_eq_getElem (by have := hv.ops.1; omega)⟩
              obtain ⟨ga, cs1, rfl, hnc, hg, k0, k1, k2, k3, k4, k5⟩ := hv.ops.2 q o ho
              have c0 : wv.cell? ⟨ga, q * 6, none⟩ = some (.int .i64 o.code) := (cell_of hg).trans k0
              have c1 : wv.cell? ⟨ga, q * 6 + 1, none⟩ = some (.int .i64 o.res) := (cell_of hg).trans k1
              have c2 : wv.cell? ⟨ga, q * 6 + 2, none⟩ = some (.int .i64 0) := (cell_of hg).trans k2
              have c3 : wv.cell? ⟨ga, q * 6 + 3, none⟩ = some (.int .i64 0) := (cell_of hg).trans k3
              have c4 : wv.cell? ⟨ga, q * 6 + 4, none⟩ = some (.int .u16 o.n) := (cell_of hg).trans k4
              have c5 : wv.cell? ⟨ga, q * 6 + 5, none⟩ = some (.slice none 0 0) := (cell_of hg).trans k5
              have hok := hv.ok o (List.mem_of_getElem? ho)
              have okr := hok.2.1
              have l9 : Low wv.heap.size wv (wv.alloc (.cells #[.int .i64 o.code, .int .i64 o.res, .int .i64 0, .int .i64 0, .int .u16 o.n, .slice none 0 0] 33)) := (Low.refl _ _).alloc (Nat.le_refl _) _
              have a9 := heap_new wv (.cells #[.int .i64 o.code, .int .i64 o.res, .int .i64 0, .int .i64 0, .int .u16 o.n, .slice none 0 0] 33)
              have hcall : o.code = 26 → CallOk wv c := fun h => (HCO.out ⟨o, List.mem_of_getElem? ho, h⟩).maps cwv HM.out
              have hop := operation_any (wv.alloc (.cells #[.int .i64 o.code, .int .i64 o.res, .int .i64 0, .int .i64 0, .int .u16 o.n, .slice none 0 0] 33)) c o hok (HNN.out o (List.mem_of_getElem? ho)) (fun h => (hcall h).low l9)
              have hr6 := HRES.out o (List.mem_of_getElem? ho)
              have HOO := Lib.hid ho
              have CA := Lib.hid (hC.tail (l9.mono hC.size)); have R1A := Lib.hid (hR1.keep (l9.block _ hR1.lt)); have R2A := Lib.hid (hR2.keep (l9.block _ hR2.lt))
              have HCA := Lib.hid (l9.some (cwv.obj HC.out (HM.out.off HC.out)))
              clear hv hg k0 k1 k2 k3 k4 k5 ho hok hC hR1 hR2 cwv hcall l9
              go_upto_region 13 with fail
              clear c0 c1 c2 c3 c4 c5 x1
              obtain ⟨t8, ht8⟩ : ∃ t, t = wv.heap.size := ⟨_, rfl⟩
              rw [← ht8] at a9 ⊢
              clear ht8
              generalize wv.alloc (.cells #[.int .i64 o.code, .int .i64 o.res, .int .i64 0, .int .i64 0, .int .u16 o.n, .slice none 0 0] 33) = wa at a9 hop CA R1A R2A HCA ⊢
              have x0 : wa.cell? ⟨t8, 0, none⟩ = some (.int .i64 o.code) := cell_of a9
              have x1 : wa.cell? ⟨t8, 1, none⟩ = some (.int .i64 o.res) := cell_of a9
              have x2 : wa.cell? ⟨t8, 2, none⟩ = some (.int .i64 0) := cell_of a9
              have x3 : wa.cell? ⟨t8, 3, none⟩ = some (.int .i64 0) := cell_of a9
              have x4 : wa.cell? ⟨t8, 4, none⟩ = some (.int .u16 o.n) := cell_of a9
              have x5 : wa.cell? ⟨t8, 5, none⟩ = some (.slice none 0 0) := cell_of a9
              have A9 := Lib.hid a9
              clear a9
              rcases okr with hneg | hpos
              · have hneg' : ¬ (0 : Int) ≤ o.res := by omega
                clear hneg hr6
                go_wp2_with (first
                  | (go_at_call 136; with_reducible refine hop.mono ?_; rintro e w6 ⟨l6, rfl⟩; have y1 : w6.cell? ⟨t8, 1, none⟩ = some (.int .i64 o.res) := cell_of (l6.some A9.out); have C6 := Lib.hid (CA.out.tail (Low.mono l6 CA.out.size)); have R16 := Lib.hid (R1A.out.keep (l6.block _ R1A.out.lt)); have R26 := Lib.hid (R2A.out.keep (l6.block _ R2A.out.lt)); clear l6 x0 x1 x2 x3 x4 x5))
                exact ⟨⟨q + 1, rfl, hlt, C6.out, R16.out.more, R26.out.more⟩, by show n - ((q : Int) + 1).toNat < n - ((q : Int)).toNat; omega⟩
              · have hpos' : (0 : Int) ≤ o.res := by omega
                have HPOS := Lib.hid hpos
                have HR6 := Lib.hid hr6
                clear hpos hr6
                go_wp2_with (first
                  | (go_at_call 136; with_reducible refine hop.mono ?_; rintro e w6 ⟨l6, rfl⟩; have y1 : w6.cell? ⟨t8, 1, none⟩ = some (.int .i64 o.res) := cell_of (l6.some A9.out); have C6 := Lib.hid (CA.out.tail (Low.mono l6 CA.out.size)); have R16 := R1A.out.keep (l6.block _ R1A.out.lt); have R26 := R2A.out.keep (l6.block _ R2A.out.lt); obtain ⟨m1, hm1, hf1, hn1⟩ := R16.fresh H.out.inc HOO.out HPOS.out; obtain ⟨m2, hm2, hf2, hn2⟩ := R26.fresh H.out.inc HOO.out HPOS.out; have hdef := define_any w6 c bm am o.res 0 q m1 m2 cs (l6.some HCA.out) H7.out H8.out hne hm1 hm2 hf1 hf2 hpos' HR6.out; have HN1 := Lib.hid hn1; have HN2 := Lib.hid hn2; clear l6 x0 x1 x2 x3 x4 x5 R16 R26 hm1 hm2 hf1 hf2 hn1 hn2)
                  | (go_at_call 135; with_reducible refine hdef.mono ?_; rintro e w7 ⟨rfl, hc7, hb7, ha7⟩))
                exact ⟨⟨q + 1, rfl, hlt, C6.out.trans hc7, HN1.out _ _ hb7, HN2.out _ _ ha7⟩, by show n - ((q : Int) + 1).toNat < n - ((q : Int)).toNat; omega⟩
            · have hlt' : ¬ (q : Int) < (n : Int) := by omega
              obtain rfl : q = n := by omega
              have a2 := hC.obj A1.out (M1.out.off A1.out)
              have z2 : wv.cell? ⟨t4, 2, none⟩ = some (.int .i64 4) := cell_of a2
              have z3 : wv.cell? ⟨t4, 3, none⟩ = some (.int .i64 (-1)) := cell_of a2
              have z4 : wv.cell? ⟨t4, 4, none⟩ = some (.slice T 0 tc) := cell_of a2
              have htm := term_any wv (.pointer (some ⟨c, 0, none⟩)) 4 (-1) T tc (.inl ⟨rfl, rfl⟩)
              have CW := Lib.hid cwv; have R1' := Lib.hid hR1; have R2' := Lib.hid hR2
              clear hv cwv hC hR1 hR2 a2 x1
              go_wp2_with (first
                | (go_at_call 137; with_reducible refine htm.mono ?_; rintro e w6 ⟨l6, rfl⟩))
              exact ⟨.inr ⟨rfl, CW.out.tail (Low.mono l6 CW.out.size), R1'.out.keep (l6.block _ R1'.out.lt), R2'.out.keep (l6.block _ R2'.out.lt)⟩, by decide⟩
    · have HH := Lib.hid (And.intro hC (And.intro hR1 hR2))
      clear hC hR1 hR2
      go_wp2_with fail
      go_ret
      exact ⟨rfl, HH.out⟩
end Go.Proofs.YtnjdegjpmbdboaaGreat
