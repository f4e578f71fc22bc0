/- The law: operations that may trap are kept. -/
import Derived.Test.YtnjdegjpmbdboaaGreatR1
import Derived.Test.YtnjdegjpmbdboaaGreatRU
namespace Go.Proofs.YtnjdegjpmbdboaaGreat
open Go.RowKit
set_option linter.unusedVariables false
/-- The kinds' cells. -/
def InK (w : World) (Ks : Option Addr) (la : Nat) : Prop := ∀ j, j < la → ∃ (g o : Nat) (z : Int), Ks = some ⟨g, o, none⟩ ∧ w.cell? ⟨g, o + j, none⟩ = some (.int .i64 z)
theorem InK.low {w w' : World} {Ks : Option Addr} {la : Nat} (h : InK w Ks la) (hl : Low w.heap.size w w') : InK w' Ks la := fun j hj => by
  obtain ⟨g, o, z, e, h1⟩ := h j hj
  exact ⟨g, o, z, e, cell_low h1 hl⟩
/-- What stands while the operations are made. -/
structure LI (w1 wx : World) (t4 gp cd : Nat) (A : Option Addr) (q c : Nat) (l : List Opn) : Prop where
  lo : Low w1.heap.size w1 wx
  h4 : w1.heap.size ≤ t4
  hl : l.length = q
  hm : Made l
  b : wx.heap[t4]? = some (.cells #[.slice (some ⟨gp, 0, none⟩) 1 1, .slice A q c, .int .i64 4, .int .i64 (-1), .slice none 0 0] 29 (0, 0))
  p : wx.heap[gp]? = some (.cells #[.int .i64 0] 3 (0, 0))
  k : wx.heap[cd]? = some (.cells lawCodes 3 (0, 0))
  o : Own wx w1.heap.size 33 6 (.slice A q c) q (rowOf l)
theorem LI.low {w1 wx wy : World} {t4 gp cd : Nat} {A : Option Addr} {q c : Nat} {l : List Opn} (h : LI w1 wx t4 gp cd A q c l) (hl : Low wx.heap.size wx wy) : LI w1 wy t4 gp cd A q c l :=
  ⟨h.lo.trans (hl.mono h.lo.size), h.h4, h.hl, h.hm, hl.some h.b, hl.some h.p, hl.some h.k, h.o.low hl⟩
theorem LI.own_ne {w1 wx : World} {t4 gp cd : Nat} {A : Option Addr} {q c : Nat} {l : List Opn} (h : LI w1 wx t4 gp cd A q c l) {b : Nat} {cs : Array Value} {e : TypeId} (hb : wx.heap[b]? = some (.cells cs e (0, 0))) (he : e ≠ 33) : some b ≠ (Value.slice A q c).ownBlock := fun hq => by
  rcases h.o.form with ⟨h1, _⟩ | ⟨g', c', cs', h1, _, h3, _⟩
  · rw [h1] at hq; cases hq
  · rw [h1] at hq; cases hq
    rw [hb] at h3; cases h3
    exact he rfl
theorem LI.set8 {w1 wx : World} {t4 gp cd t8 i : Nat} {v : Value} {A : Option Addr} {q c : Nat} {l : List Opn} (h : LI w1 wx t4 gp cd A q c l) (h8 : w1.heap.size ≤ t8) (a4 : t4 < t8) (ap : gp < t8) (ac : cd < t8) (ao : ∀ k, (Value.slice A q c).ownBlock = some k → k < t8) : LI w1 (wx.setCell ⟨t8, i, none⟩ v) t4 gp cd A q c l :=
  ⟨h.lo.setCell h8 _, h.h4, h.hl, h.hm, (set_other (by omega)).trans h.b, (set_other (by omega)).trans h.p, (set_other (by omega)).trans h.k, h.o.kept fun g hg => set_other (by have := ao g hg; omega)⟩
theorem LI.snoc {w1 wx w9 : World} {t4 gp cd : Nat} {A : Option Addr} {q c : Nat} {l : List Opn} {v9 : Value} (h : LI w1 wx t4 gp cd A q c l) {o : Opn} (happ : App1 (wx.alloc (.cells o.cells 33)) w9 w1.heap.size 33 6 (.slice A q c) v9 q (rowOf l) 1 o.cells.toList) (ho : OkOp o) (hn : NOk o) (hr : o.res = (q : Nat) + 1 ∨ o.res = -1) :
    ∃ g' c', v9 = .slice (some ⟨g', 0, none⟩) (q + 1) c' ∧ w9.cell? ⟨t4, 1, none⟩ = some (.slice A q c) ∧ w9.frozen? ⟨t4, 1, none⟩ = false ∧ LI w1 (w9.setCell ⟨t4, 1, none⟩ (.slice (some ⟨g', 0, none⟩) (q + 1) c')) t4 gp cd (some ⟨g', 0, none⟩) (q + 1) c' (l ++ [o]) := by
  have la : Low wx.heap.size wx (wx.alloc (.cells o.cells 33)) := (Low.refl _ _).alloc (Nat.le_refl _) _
  have hI := h.low la
  have b9 := (happ.block t4 (heap_lt hI.b) (hI.own_ne hI.b (by decide))).trans hI.b
  have p9 := (happ.block gp (heap_lt hI.p) (hI.own_ne hI.p (by decide))).trans hI.p
  have k9 := (happ.block cd (heap_lt hI.k) (hI.own_ne hI.k (by decide))).trans hI.k
  have l9 := hI.lo.trans (happ.low hI.o (Nat.le_refl _) hI.lo.size)
  obtain ⟨g', c', cs, rfl, hg1, hg2, hg3, hown⟩ := happ.row (k := q + 1) rfl (by omega)
  have hgt : g' ≠ t4 := by
    rintro rfl
    rw [b9] at hg2; cases hg2
  have hgp : gp ≠ t4 := by
    rintro rfl
    rw [b9] at p9; cases p9
  have hgc : cd ≠ t4 := by
    rintro rfl
    rw [b9] at k9; cases k9
  refine ⟨g', c', rfl, cell_of b9, free_of b9, l9.setCell h.h4 _, h.h4, by rw [List.length_append, h.hl]; rfl, h.hm.snoc ho hn (by rw [h.hl]; exact hr), set_blk b9, (set_other hgp).trans p9, (set_other hgc).trans k9, ?_⟩
  rw [rowOf_snoc]
  refine hown.kept fun k hk => set_other ?_
  simp [Value.ownBlock] at hk
  omega
theorem op_ok_res (c : Int) (q : Nat) (n : Int) (h : OkCode c) (hr : opRes c = true) : OkOp ⟨c, (q : Int) + 1, n⟩ := ⟨h, .inr (by show 0 < (q : Int) + 1; omega), fun _ => by show 0 < (q : Int) + 1; omega, fun h2 => by
  have h3 : opRes c = false := h2
  rw [hr] at h3; cases h3⟩
theorem op_ok_no (c : Int) (n : Int) (h : OkCode c) (hr : opRes c = false) : OkOp ⟨c, -1, n⟩ := ⟨h, .inl (by show (-1 : Int) < 0; decide), (fun h2 => by
  have h3 : opRes c = true := h2
  rw [hr] at h3; cases h3), fun _ => rfl⟩
theorem three_new {w : World} {gp t4 cd : Nat} (o1 o2 o3 : Obj) (h1 : w.heap.size = gp) (h2 : t4 = gp + 1) (h3 : cd = gp + 1 + 1) : ∀ w1, w1 = ((w.alloc o1).alloc o2).alloc o3 → Low w.heap.size w w1 ∧ w1.heap[gp]? = some o1 ∧ w1.heap[t4]? = some o2 ∧ w1.heap[cd]? = some o3 := by
  rintro w1 rfl
  subst h2 h3
  obtain ⟨_, a, b, c, d⟩ := three_allocs o1 o2 o3 h1
  exact ⟨h1 ▸ d, a, b, c⟩
set_option maxRecDepth 100000 in
set_option maxHeartbeats 32000000 in
theorem law_any (w : World) (Ks : Option Addr) (la ca : Nat) (hla : la ≤ 9223372036854775807) (hA : InK w Ks la) :
    Calls Tryz.prog 3 #[.slice Ks la ca] w (fun e w' => e = .returned (.bool true) ∧ w.keptBut w' (fun _ => False)) := by
  have HA := Lib.hid hA
  clear hA
  go_enter Tryz.func3, Tryz.ntmps3
  go_upto_region 2 with (first
    | (go_at_call 4; (with_reducible refine (sanity_any _).mono ?_); rintro e w1 ⟨rfl, hg1⟩))
  have HK1 := Lib.hid hg1.1
  have hA1 : InK w1 Ks la := fun j hj => by
    obtain ⟨g, o, z, e, h1⟩ := HA.out j hj
    exact ⟨g, o, z, e, kept_cell hg1.1 h1⟩
  clear hg1
  have hbs1 : ∀ u : World, (Instr.buildSlice 22 1 #[(0, .int .i64 0)]).run Tryz.prog u = .ok (.slice (some ⟨u.heap.size, 0, none⟩) 1 1) (u.alloc (.cells #[.int .i64 0] 3)) := fun u => by kernel_rfl
  have hbs2 : ∀ u : World, (Instr.buildSlice 22 12 #[(0, .int .i64 18), (1, .int .i64 19), (2, .int .i64 20), (3, .int .i64 21), (4, .int .i64 22), (5, .int .i64 23), (6, .int .i64 24), (7, .int .i64 25), (8, .int .i64 27), (9, .int .i64 8), (10, .int .i64 3), (11, .int .i64 26)]).run Tryz.prog u = .ok (.slice (some ⟨u.heap.size, 0, none⟩) 12 12) (u.alloc (.cells lawCodes 3)) := fun u => by kernel_rfl
  obtain ⟨gp, hgp⟩ : ∃ S, w1.heap.size = S := ⟨_, rfl⟩
  go_upto_region 4 with fail
  obtain ⟨t4, ht4⟩ : ∃ t, t = gp + 1 := ⟨_, rfl⟩
  obtain ⟨cd, hcd⟩ : ∃ t, t = gp + 1 + 1 := ⟨_, rfl⟩
  have hv := three_new (.cells #[.int .i64 0] 3) (.cells #[.slice (some ⟨gp, 0, none⟩) 1 1, .slice none 0 0, .int .i64 4, .int .i64 (-1), .slice none 0 0] 29) (.cells #[.int .i64 18, .int .i64 19, .int .i64 20, .int .i64 21, .int .i64 22, .int .i64 23, .int .i64 24, .int .i64 25, .int .i64 27, .int .i64 8, .int .i64 3, .int .i64 26] 3) hgp ht4 hcd _ rfl
  rw [← hcd, ← ht4]
  have HNUM := Lib.hid (And.intro hgp (And.intro ht4 hcd))
  clear hbs1 hbs2 hgp ht4 hcd
  generalize ((w1.alloc (.cells #[.int .i64 0] 3)).alloc (.cells #[.slice (some ⟨gp, 0, none⟩) 1 1, .slice none 0 0, .int .i64 4, .int .i64 (-1), .slice none 0 0] 29)).alloc (.cells #[.int .i64 18, .int .i64 19, .int .i64 20, .int .i64 21, .int .i64 22, .int .i64 23, .int .i64 24, .int .i64 25, .int .i64 27, .int .i64 8, .int .i64 3, .int .i64 26] 3) = w2 at hv ⊢
  obtain ⟨l2, hp2, hb2, hk2⟩ := hv
  have I2 : Hid (LI w1 w2 t4 gp cd none 0 0 []) := Lib.hid ⟨l2, by have := HNUM.out; omega, rfl, Made.nil, hb2, hp2, hk2, Own.nil _ _ _ _⟩
  have HA1 := Lib.hid hA1
  clear l2 hp2 hb2 hk2 hA1
  go_wp2_with fail
  go_loopw [7, 6] (fun i s wr => ∃ q l A c, i = .int .i64 (q : Nat) ∧ q ≤ 12 ∧ q ≤ la ∧ s = .int .i64 ((kept l).length : Nat) ∧ LI w1 wr t4 gp cd A q c l) (fun i _ _ => 12 - (intOf i).toNat)
  case atStart => exact ⟨0, [], none, 0, rfl, by omega, by omega, rfl, I2.out⟩
  case round =>
    obtain ⟨wv, rfl⟩ : ∃ u, u = wr := ⟨_, rfl⟩
    obtain ⟨q, l, A, c, rfl, hq, hqa, rfl, hI⟩ := hrel
    have hq0 : (0 : Int) ≤ (q : Int) := by omega
    have hlaI : (la : Int) ≤ 9223372036854775807 := by omega
    by_cases hlt : q < la ∧ q < 12
    · obtain ⟨hlt1, hlt2⟩ := hlt
      have hlt1' : (q : Int) < (la : Int) := by omega
      have hlt2' : (q : Int) < 12 := by omega
      obtain ⟨gk, ok, z, rfl, hz⟩ := (HA1.out.low hI.lo) q hlt1
      have hmod := mod_any wv z
      have HI := Lib.hid hI
      clear hI
      go_upto_region 9 with (first
        | (go_at_call 5; with_reducible refine hmod.mono ?_; rintro e wu ⟨hwu, r, hr, rfl⟩; rw [hwu]; clear hwu wu; obtain ⟨cc, hcc, hok⟩ := codes_at r hr; have hr1 : (r : Int) < 12 := (by omega); have hr0 : (0 : Int) ≤ (r : Int) := (by omega); have xc : wv.cell? ⟨cd, r, none⟩ = some (.int .i64 cc) := (cell_of HI.out.k).trans hcc))
      have l3 : Low wv.heap.size wv (wv.alloc (.cells #[.int .i64 cc, .int .i64 ((q : Int) + 1), .int .i64 0, .int .i64 0, .int .u16 0, .slice none 0 0] 33)) := (Low.refl _ _).alloc (Nat.le_refl _) _
      have a3 := heap_new wv (.cells #[.int .i64 cc, .int .i64 ((q : Int) + 1), .int .i64 0, .int .i64 0, .int .u16 0, .slice none 0 0] 33)
      have I3 := Lib.hid (HI.out.low l3)
      have hts := HI.out.lo.size
      have hlt4 := heap_lt HI.out.b; have hltp := heap_lt HI.out.p; have hltc := heap_lt HI.out.k
      have hlto : ∀ k, (Value.slice A q c).ownBlock = some k → k < wv.heap.size := fun k hk => by
        rcases HI.out.o.form with ⟨h1, _⟩ | ⟨g', c', cs', h1, _, h3, _⟩
        · rw [h1] at hk; cases hk
        · rw [h1] at hk; cases hk
          exact heap_lt h3
      have hsh := shape_any (wv.alloc (.cells #[.int .i64 cc, .int .i64 ((q : Int) + 1), .int .i64 0, .int .i64 0, .int .u16 0, .slice none 0 0] 33)) cc hok
      clear l3 HI hmod hz xc hcc
      obtain ⟨t8, ht8⟩ : ∃ t, t = wv.heap.size := ⟨_, rfl⟩
      rw [← ht8] at a3 hts hlt4 hltp hltc hlto ⊢
      clear ht8
      generalize wv.alloc (.cells #[.int .i64 cc, .int .i64 ((q : Int) + 1), .int .i64 0, .int .i64 0, .int .u16 0, .slice none 0 0] 33) = w3 at a3 I3 hsh ⊢
      have A3 := Lib.hid a3
      have x0 : w3.cell? ⟨t8, 0, none⟩ = some (.int .i64 cc) := cell_of a3
      have HT8 := Lib.hid (And.intro hts (And.intro hlt4 (And.intro hltp (And.intro hltc hlto))))
      clear a3 hts hlt4 hltp hltc hlto
      go_upto_region 10 with (first
        | (go_at_call 6; with_reducible refine hsh.mono ?_; rintro e w4 ⟨l4, sa, sb, sn, rfl⟩))
      have l5 : Low w4.heap.size w4 (w4.alloc (.cells #[.bool true, .bool (opRes cc), .bool sa, .bool sb, .bool sn] 35)) := (Low.refl _ _).alloc (Nat.le_refl _) _
      have a5 := heap_new w4 (.cells #[.bool true, .bool (opRes cc), .bool sa, .bool sb, .bool sn] 35)
      have l35 := Low.trans l4 (Low.mono l5 l4.size)
      have I5 := Lib.hid (I3.out.low l35); have T85 := Lib.hid (l35.some A3.out)
      clear l4 l5 l35 hsh x0 A3
      obtain ⟨t9, ht9⟩ : ∃ t, t = w4.heap.size := ⟨_, rfl⟩
      rw [← ht9] at a5 ⊢
      clear ht9
      generalize w4.alloc (.cells #[.bool true, .bool (opRes cc), .bool sa, .bool sb, .bool sn] 35) = w5 at a5 I5 T85 ⊢
      have T95 := Lib.hid a5
      have H98 := Lib.hid (show t9 ≠ t8 from by
        rintro rfl
        have h1 := T85.out
        rw [a5] at h1; cases h1)
      clear a5
      obtain ⟨ores, hores⟩ : ∃ p, opRes cc = p := ⟨_, rfl⟩
      rw [hores] at T95 ⊢
      simp only [OkCode, List.mem_cons, List.not_mem_nil, or_false] at hok
      rcases hok with rfl | rfl | rfl | rfl | rfl | rfl | rfl | rfl | rfl | rfl | rfl | rfl
      · have ho : ores = true := by rw [← hores]; rfl
        subst ho
        clear hores
        have y0 : w5.cell? ⟨t8, 0, none⟩ = some (.int .i64 3) := cell_of T85.out
        have y1 : w5.cell? ⟨t9, 1, none⟩ = some (.bool true) := cell_of T95.out
        have y11 : w5.cell? ⟨t8, 1, none⟩ = some (.int .i64 ((q : Int) + 1)) := cell_of T85.out
        have y22 : w5.cell? ⟨t8, 2, none⟩ = some (.int .i64 0) := cell_of T85.out
        have y33 : w5.cell? ⟨t8, 3, none⟩ = some (.int .i64 0) := cell_of T85.out
        have y44 : w5.cell? ⟨t8, 4, none⟩ = some (.int .u16 0) := cell_of T85.out
        have y55 : w5.cell? ⟨t8, 5, none⟩ = some (.slice none 0 0) := cell_of T85.out
        have z1 : w5.cell? ⟨t4, 1, none⟩ = some (.slice A q c) := cell_of I5.out.b
        have hbs : ∀ u : World, (Instr.buildSlice 27 1 #[(0, .agg #[.int .i64 3, .int .i64 ((q : Int) + 1), .int .i64 0, .int .i64 0, .int .u16 0, .slice none 0 0])]).run Tryz.prog u = .ok (.slice (some ⟨u.heap.size, 0, none⟩) 1 1) (u.alloc (.cells #[.int .i64 3, .int .i64 ((q : Int) + 1), .int .i64 0, .int .i64 0, .int .u16 0, .slice none 0 0] 33)) := fun u => by kernel_rfl
        have hok : OkOp (⟨3, (q : Int) + 1, 0⟩ : Opn) := op_ok_res 3 q 0 (by unfold OkCode; decide) rfl
        have hno : NOk (⟨3, (q : Int) + 1, 0⟩ : Opn) := by
          refine ⟨fun hx => ?_, fun hx hy => ?_⟩
          · rcases hx with hx | hx <;> exact absurd hx (show ¬ ((3 : Int) = _) by decide)
          · rfl
        have hkl : (kept (l ++ [(⟨3, (q : Int) + 1, 0⟩ : Opn)])).length = (kept l).length := by
          rw [kept_snoc]
          rw [if_pos rfl]
        have OWN := Lib.hid (I5.out.low ((Low.refl _ _).alloc (Nat.le_refl _) (.cells #[.int .i64 3, .int .i64 ((q : Int) + 1), .int .i64 0, .int .i64 0, .int .u16 0, .slice none 0 0] 33))).o
        have HLE := I5.out.lo.size
        have HOK := Lib.hid hok; have HNO := Lib.hid hno; have HKL := Lib.hid hkl
        clear hok hno hkl
        have hkm : ((kept l).length : Int) ≤ 12 := by
          have h1 : (kept l).length ≤ l.length := List.length_filter_le _ _
          have h2 := I5.out.hl
          omega
        have hkp : (0 : Int) ≤ ((kept l).length : Int) := by omega
        go_wp2_with (first
          | (at_builtin; refine wpList_app1 (w := w5.alloc (.cells #[.int .i64 3, .int .i64 ((q : Int) + 1), .int .i64 0, .int .i64 0, .int .u16 0, .slice none 0 0] 33)) (P := Tryz.prog) (base := w1.heap.size) (n := q) (m := 1) (xs := rowOf l) ap27 rfl (.tmp 66) (.tmp 68) rfl rfl OWN.out rfl (heap_new w5 _) rfl (by simp [Value.oneCell']) (by omega) (Nat.le_trans HLE (by simp)) ?_; intro v9 w9 happ0; obtain ⟨g', c', rfl, x10, f10, hI10⟩ := LI.snoc (o := (⟨3, (q : Int) + 1, 0⟩ : Opn)) I5.out happ0 HOK.out HNO.out (.inl rfl); have I10 := Lib.hid hI10; clear hI10 happ0 y0 y1 y11 y22 y33 y44 y55 z1))
        exact ⟨⟨q + 1, l ++ [(⟨3, (q : Int) + 1, 0⟩ : Opn)], some ⟨g', 0, none⟩, c', by simp, by omega, by omega, by rw [HKL.out], I10.out⟩, by show 12 - ((q : Int) + 1).toNat < 12 - ((q : Int)).toNat; omega⟩
      · have ho : ores = true := by rw [← hores]; rfl
        subst ho
        clear hores
        have y0 : w5.cell? ⟨t8, 0, none⟩ = some (.int .i64 8) := cell_of T85.out
        have y1 : w5.cell? ⟨t9, 1, none⟩ = some (.bool true) := cell_of T95.out
        have y11 : w5.cell? ⟨t8, 1, none⟩ = some (.int .i64 ((q : Int) + 1)) := cell_of T85.out
        have y22 : w5.cell? ⟨t8, 2, none⟩ = some (.int .i64 0) := cell_of T85.out
        have y33 : w5.cell? ⟨t8, 3, none⟩ = some (.int .i64 0) := cell_of T85.out
        have y44 : w5.cell? ⟨t8, 4, none⟩ = some (.int .u16 0) := cell_of T85.out
        have y55 : w5.cell? ⟨t8, 5, none⟩ = some (.slice none 0 0) := cell_of T85.out
        have z1 : w5.cell? ⟨t4, 1, none⟩ = some (.slice A q c) := cell_of I5.out.b
        have hbs : ∀ u : World, (Instr.buildSlice 27 1 #[(0, .agg #[.int .i64 8, .int .i64 ((q : Int) + 1), .int .i64 0, .int .i64 0, .int .u16 0, .slice none 0 0])]).run Tryz.prog u = .ok (.slice (some ⟨u.heap.size, 0, none⟩) 1 1) (u.alloc (.cells #[.int .i64 8, .int .i64 ((q : Int) + 1), .int .i64 0, .int .i64 0, .int .u16 0, .slice none 0 0] 33)) := fun u => by kernel_rfl
        have hok : OkOp (⟨8, (q : Int) + 1, 0⟩ : Opn) := op_ok_res 8 q 0 (by unfold OkCode; decide) rfl
        have hno : NOk (⟨8, (q : Int) + 1, 0⟩ : Opn) := by
          refine ⟨fun hx => ?_, fun hx hy => ?_⟩
          · rcases hx with hx | hx <;> exact absurd hx (show ¬ ((8 : Int) = _) by decide)
          · rfl
        have hkl : (kept (l ++ [(⟨8, (q : Int) + 1, 0⟩ : Opn)])).length = (kept l).length + 1 := by
          rw [kept_snoc]
          rw [if_neg (show ¬ ((8 : Int) = 3) by decide)]; simp
        have OWN := Lib.hid (I5.out.low ((Low.refl _ _).alloc (Nat.le_refl _) (.cells #[.int .i64 8, .int .i64 ((q : Int) + 1), .int .i64 0, .int .i64 0, .int .u16 0, .slice none 0 0] 33))).o
        have HLE := I5.out.lo.size
        have HOK := Lib.hid hok; have HNO := Lib.hid hno; have HKL := Lib.hid hkl
        clear hok hno hkl
        have hkm : ((kept l).length : Int) ≤ 12 := by
          have h1 : (kept l).length ≤ l.length := List.length_filter_le _ _
          have h2 := I5.out.hl
          omega
        have hkp : (0 : Int) ≤ ((kept l).length : Int) := by omega
        go_wp2_with (first
          | (at_builtin; refine wpList_app1 (w := w5.alloc (.cells #[.int .i64 8, .int .i64 ((q : Int) + 1), .int .i64 0, .int .i64 0, .int .u16 0, .slice none 0 0] 33)) (P := Tryz.prog) (base := w1.heap.size) (n := q) (m := 1) (xs := rowOf l) ap27 rfl (.tmp 66) (.tmp 68) rfl rfl OWN.out rfl (heap_new w5 _) rfl (by simp [Value.oneCell']) (by omega) (Nat.le_trans HLE (by simp)) ?_; intro v9 w9 happ0; obtain ⟨g', c', rfl, x10, f10, hI10⟩ := LI.snoc (o := (⟨8, (q : Int) + 1, 0⟩ : Opn)) I5.out happ0 HOK.out HNO.out (.inl rfl); have I10 := Lib.hid hI10; clear hI10 happ0 y0 y1 y11 y22 y33 y44 y55 z1))
        exact ⟨⟨q + 1, l ++ [(⟨8, (q : Int) + 1, 0⟩ : Opn)], some ⟨g', 0, none⟩, c', by simp, by omega, by omega, by rw [HKL.out]; simp, I10.out⟩, by show 12 - ((q : Int) + 1).toNat < 12 - ((q : Int)).toNat; omega⟩
      · have ho : ores = true := by rw [← hores]; rfl
        subst ho
        clear hores
        have y0 : w5.cell? ⟨t8, 0, none⟩ = some (.int .i64 18) := cell_of T85.out
        have y1 : w5.cell? ⟨t9, 1, none⟩ = some (.bool true) := cell_of T95.out
        have y11 : w5.cell? ⟨t8, 1, none⟩ = some (.int .i64 ((q : Int) + 1)) := cell_of T85.out
        have y22 : w5.cell? ⟨t8, 2, none⟩ = some (.int .i64 0) := cell_of T85.out
        have y33 : w5.cell? ⟨t8, 3, none⟩ = some (.int .i64 0) := cell_of T85.out
        have y44 : w5.cell? ⟨t8, 4, none⟩ = some (.int .u16 0) := cell_of T85.out
        have y55 : w5.cell? ⟨t8, 5, none⟩ = some (.slice none 0 0) := cell_of T85.out
        have z1 : w5.cell? ⟨t4, 1, none⟩ = some (.slice A q c) := cell_of I5.out.b
        have hbs : ∀ u : World, (Instr.buildSlice 27 1 #[(0, .agg #[.int .i64 18, .int .i64 ((q : Int) + 1), .int .i64 0, .int .i64 0, .int .u16 0, .slice none 0 0])]).run Tryz.prog u = .ok (.slice (some ⟨u.heap.size, 0, none⟩) 1 1) (u.alloc (.cells #[.int .i64 18, .int .i64 ((q : Int) + 1), .int .i64 0, .int .i64 0, .int .u16 0, .slice none 0 0] 33)) := fun u => by kernel_rfl
        have hok : OkOp (⟨18, (q : Int) + 1, 0⟩ : Opn) := op_ok_res 18 q 0 (by unfold OkCode; decide) rfl
        have hno : NOk (⟨18, (q : Int) + 1, 0⟩ : Opn) := by
          refine ⟨fun hx => ?_, fun hx hy => ?_⟩
          · rcases hx with hx | hx <;> exact absurd hx (show ¬ ((18 : Int) = _) by decide)
          · rfl
        have hkl : (kept (l ++ [(⟨18, (q : Int) + 1, 0⟩ : Opn)])).length = (kept l).length + 1 := by
          rw [kept_snoc]
          rw [if_neg (show ¬ ((18 : Int) = 3) by decide)]; simp
        have OWN := Lib.hid (I5.out.low ((Low.refl _ _).alloc (Nat.le_refl _) (.cells #[.int .i64 18, .int .i64 ((q : Int) + 1), .int .i64 0, .int .i64 0, .int .u16 0, .slice none 0 0] 33))).o
        have HLE := I5.out.lo.size
        have HOK := Lib.hid hok; have HNO := Lib.hid hno; have HKL := Lib.hid hkl
        clear hok hno hkl
        have hkm : ((kept l).length : Int) ≤ 12 := by
          have h1 : (kept l).length ≤ l.length := List.length_filter_le _ _
          have h2 := I5.out.hl
          omega
        have hkp : (0 : Int) ≤ ((kept l).length : Int) := by omega
        go_wp2_with (first
          | (at_builtin; refine wpList_app1 (w := w5.alloc (.cells #[.int .i64 18, .int .i64 ((q : Int) + 1), .int .i64 0, .int .i64 0, .int .u16 0, .slice none 0 0] 33)) (P := Tryz.prog) (base := w1.heap.size) (n := q) (m := 1) (xs := rowOf l) ap27 rfl (.tmp 66) (.tmp 68) rfl rfl OWN.out rfl (heap_new w5 _) rfl (by simp [Value.oneCell']) (by omega) (Nat.le_trans HLE (by simp)) ?_; intro v9 w9 happ0; obtain ⟨g', c', rfl, x10, f10, hI10⟩ := LI.snoc (o := (⟨18, (q : Int) + 1, 0⟩ : Opn)) I5.out happ0 HOK.out HNO.out (.inl rfl); have I10 := Lib.hid hI10; clear hI10 happ0 y0 y1 y11 y22 y33 y44 y55 z1))
        exact ⟨⟨q + 1, l ++ [(⟨18, (q : Int) + 1, 0⟩ : Opn)], some ⟨g', 0, none⟩, c', by simp, by omega, by omega, by rw [HKL.out]; simp, I10.out⟩, by show 12 - ((q : Int) + 1).toNat < 12 - ((q : Int)).toNat; omega⟩
      · have ho : ores = true := by rw [← hores]; rfl
        subst ho
        clear hores
        have y0 : w5.cell? ⟨t8, 0, none⟩ = some (.int .i64 19) := cell_of T85.out
        have y1 : w5.cell? ⟨t9, 1, none⟩ = some (.bool true) := cell_of T95.out
        have y11 : w5.cell? ⟨t8, 1, none⟩ = some (.int .i64 ((q : Int) + 1)) := cell_of T85.out
        have y22 : w5.cell? ⟨t8, 2, none⟩ = some (.int .i64 0) := cell_of T85.out
        have y33 : w5.cell? ⟨t8, 3, none⟩ = some (.int .i64 0) := cell_of T85.out
        have y44 : w5.cell? ⟨t8, 4, none⟩ = some (.int .u16 0) := cell_of T85.out
        have y55 : w5.cell? ⟨t8, 5, none⟩ = some (.slice none 0 0) := cell_of T85.out
        have z1 : w5.cell? ⟨t4, 1, none⟩ = some (.slice A q c) := cell_of I5.out.b
        have hbs : ∀ u : World, (Instr.buildSlice 27 1 #[(0, .agg #[.int .i64 19, .int .i64 ((q : Int) + 1), .int .i64 0, .int .i64 0, .int .u16 0, .slice none 0 0])]).run Tryz.prog u = .ok (.slice (some ⟨u.heap.size, 0, none⟩) 1 1) (u.alloc (.cells #[.int .i64 19, .int .i64 ((q : Int) + 1), .int .i64 0, .int .i64 0, .int .u16 0, .slice none 0 0] 33)) := fun u => by kernel_rfl
        have hok : OkOp (⟨19, (q : Int) + 1, 0⟩ : Opn) := op_ok_res 19 q 0 (by unfold OkCode; decide) rfl
        have hno : NOk (⟨19, (q : Int) + 1, 0⟩ : Opn) := by
          refine ⟨fun hx => ?_, fun hx hy => ?_⟩
          · rcases hx with hx | hx <;> exact absurd hx (show ¬ ((19 : Int) = _) by decide)
          · rfl
        have hkl : (kept (l ++ [(⟨19, (q : Int) + 1, 0⟩ : Opn)])).length = (kept l).length + 1 := by
          rw [kept_snoc]
          rw [if_neg (show ¬ ((19 : Int) = 3) by decide)]; simp
        have OWN := Lib.hid (I5.out.low ((Low.refl _ _).alloc (Nat.le_refl _) (.cells #[.int .i64 19, .int .i64 ((q : Int) + 1), .int .i64 0, .int .i64 0, .int .u16 0, .slice none 0 0] 33))).o
        have HLE := I5.out.lo.size
        have HOK := Lib.hid hok; have HNO := Lib.hid hno; have HKL := Lib.hid hkl
        clear hok hno hkl
        have hkm : ((kept l).length : Int) ≤ 12 := by
          have h1 : (kept l).length ≤ l.length := List.length_filter_le _ _
          have h2 := I5.out.hl
          omega
        have hkp : (0 : Int) ≤ ((kept l).length : Int) := by omega
        go_wp2_with (first
          | (at_builtin; refine wpList_app1 (w := w5.alloc (.cells #[.int .i64 19, .int .i64 ((q : Int) + 1), .int .i64 0, .int .i64 0, .int .u16 0, .slice none 0 0] 33)) (P := Tryz.prog) (base := w1.heap.size) (n := q) (m := 1) (xs := rowOf l) ap27 rfl (.tmp 66) (.tmp 68) rfl rfl OWN.out rfl (heap_new w5 _) rfl (by simp [Value.oneCell']) (by omega) (Nat.le_trans HLE (by simp)) ?_; intro v9 w9 happ0; obtain ⟨g', c', rfl, x10, f10, hI10⟩ := LI.snoc (o := (⟨19, (q : Int) + 1, 0⟩ : Opn)) I5.out happ0 HOK.out HNO.out (.inl rfl); have I10 := Lib.hid hI10; clear hI10 happ0 y0 y1 y11 y22 y33 y44 y55 z1))
        exact ⟨⟨q + 1, l ++ [(⟨19, (q : Int) + 1, 0⟩ : Opn)], some ⟨g', 0, none⟩, c', by simp, by omega, by omega, by rw [HKL.out]; simp, I10.out⟩, by show 12 - ((q : Int) + 1).toNat < 12 - ((q : Int)).toNat; omega⟩
      · have ho : ores = false := by rw [← hores]; rfl
        subst ho
        clear hores
        have y0 : w5.cell? ⟨t8, 0, none⟩ = some (.int .i64 20) := cell_of T85.out
        have y1 : w5.cell? ⟨t9, 1, none⟩ = some (.bool false) := cell_of T95.out
        have x1 : w5.cell? ⟨t8, 1, none⟩ = some (.int .i64 ((q : Int) + 1)) := cell_of T85.out
        have f1 : w5.frozen? ⟨t8, 1, none⟩ = false := free_of T85.out
        have Iw7 := Lib.hid (I5.out.set8 (i := 1) (v := .int .i64 (-1)) HT8.out.1 HT8.out.2.1 HT8.out.2.2.1 HT8.out.2.2.2.1 HT8.out.2.2.2.2)
        have T8w7 := Lib.hid (show (w5.setCell ⟨t8, 1, none⟩ (.int .i64 (-1))).heap[t8]? = some (.cells #[.int .i64 20, .int .i64 (-1), .int .i64 0, .int .i64 0, .int .u16 0, .slice none 0 0] 33 (0, 0)) from set_blk T85.out)
        have T9w7 := Lib.hid ((set_other (i := 1) (v := .int .i64 (-1)) H98.out).trans T95.out)
        go_upto_region 14 with fail
        clear x1 f1 y0 y1
        generalize w5.setCell ⟨t8, 1, none⟩ (.int .i64 (-1)) = w7 at Iw7 T8w7 T9w7 ⊢
        have y0 : w7.cell? ⟨t8, 0, none⟩ = some (.int .i64 20) := cell_of T8w7.out
        have y1 : w7.cell? ⟨t9, 1, none⟩ = some (.bool false) := cell_of T9w7.out
        have y11 : w7.cell? ⟨t8, 1, none⟩ = some (.int .i64 (-1)) := cell_of T8w7.out
        have y22 : w7.cell? ⟨t8, 2, none⟩ = some (.int .i64 0) := cell_of T8w7.out
        have y33 : w7.cell? ⟨t8, 3, none⟩ = some (.int .i64 0) := cell_of T8w7.out
        have y44 : w7.cell? ⟨t8, 4, none⟩ = some (.int .u16 0) := cell_of T8w7.out
        have y55 : w7.cell? ⟨t8, 5, none⟩ = some (.slice none 0 0) := cell_of T8w7.out
        have z1 : w7.cell? ⟨t4, 1, none⟩ = some (.slice A q c) := cell_of Iw7.out.b
        have hbs : ∀ u : World, (Instr.buildSlice 27 1 #[(0, .agg #[.int .i64 20, .int .i64 (-1), .int .i64 0, .int .i64 0, .int .u16 0, .slice none 0 0])]).run Tryz.prog u = .ok (.slice (some ⟨u.heap.size, 0, none⟩) 1 1) (u.alloc (.cells #[.int .i64 20, .int .i64 (-1), .int .i64 0, .int .i64 0, .int .u16 0, .slice none 0 0] 33)) := fun u => by kernel_rfl
        have hok : OkOp (⟨20, -1, 0⟩ : Opn) := op_ok_no 20 0 (by unfold OkCode; decide) rfl
        have hno : NOk (⟨20, -1, 0⟩ : Opn) := by
          refine ⟨fun hx => ?_, fun hx hy => ?_⟩
          · rcases hx with hx | hx <;> exact absurd hx (show ¬ ((20 : Int) = _) by decide)
          · rfl
        have hkl : (kept (l ++ [(⟨20, -1, 0⟩ : Opn)])).length = (kept l).length + 1 := by
          rw [kept_snoc]
          rw [if_neg (show ¬ ((20 : Int) = 3) by decide)]; simp
        have OWN := Lib.hid (Iw7.out.low ((Low.refl _ _).alloc (Nat.le_refl _) (.cells #[.int .i64 20, .int .i64 (-1), .int .i64 0, .int .i64 0, .int .u16 0, .slice none 0 0] 33))).o
        have HLE := Iw7.out.lo.size
        have HOK := Lib.hid hok; have HNO := Lib.hid hno; have HKL := Lib.hid hkl
        clear hok hno hkl
        have hkm : ((kept l).length : Int) ≤ 12 := by
          have h1 : (kept l).length ≤ l.length := List.length_filter_le _ _
          have h2 := Iw7.out.hl
          omega
        have hkp : (0 : Int) ≤ ((kept l).length : Int) := by omega
        go_wp2_with (first
          | (at_builtin; refine wpList_app1 (w := w7.alloc (.cells #[.int .i64 20, .int .i64 (-1), .int .i64 0, .int .i64 0, .int .u16 0, .slice none 0 0] 33)) (P := Tryz.prog) (base := w1.heap.size) (n := q) (m := 1) (xs := rowOf l) ap27 rfl (.tmp 66) (.tmp 68) rfl rfl OWN.out rfl (heap_new w7 _) rfl (by simp [Value.oneCell']) (by omega) (Nat.le_trans HLE (by simp)) ?_; intro v9 w9 happ0; obtain ⟨g', c', rfl, x10, f10, hI10⟩ := LI.snoc (o := (⟨20, -1, 0⟩ : Opn)) Iw7.out happ0 HOK.out HNO.out (.inr rfl); have I10 := Lib.hid hI10; clear hI10 happ0 y0 y1 y11 y22 y33 y44 y55 z1))
        exact ⟨⟨q + 1, l ++ [(⟨20, -1, 0⟩ : Opn)], some ⟨g', 0, none⟩, c', by simp, by omega, by omega, by rw [HKL.out]; simp, I10.out⟩, by show 12 - ((q : Int) + 1).toNat < 12 - ((q : Int)).toNat; omega⟩
      · have ho : ores = false := by rw [← hores]; rfl
        subst ho
        clear hores
        have y0 : w5.cell? ⟨t8, 0, none⟩ = some (.int .i64 21) := cell_of T85.out
        have y1 : w5.cell? ⟨t9, 1, none⟩ = some (.bool false) := cell_of T95.out
        have x1 : w5.cell? ⟨t8, 1, none⟩ = some (.int .i64 ((q : Int) + 1)) := cell_of T85.out
        have f1 : w5.frozen? ⟨t8, 1, none⟩ = false := free_of T85.out
        have Iw7 := Lib.hid (I5.out.set8 (i := 1) (v := .int .i64 (-1)) HT8.out.1 HT8.out.2.1 HT8.out.2.2.1 HT8.out.2.2.2.1 HT8.out.2.2.2.2)
        have T8w7 := Lib.hid (show (w5.setCell ⟨t8, 1, none⟩ (.int .i64 (-1))).heap[t8]? = some (.cells #[.int .i64 21, .int .i64 (-1), .int .i64 0, .int .i64 0, .int .u16 0, .slice none 0 0] 33 (0, 0)) from set_blk T85.out)
        have T9w7 := Lib.hid ((set_other (i := 1) (v := .int .i64 (-1)) H98.out).trans T95.out)
        go_upto_region 14 with fail
        clear x1 f1 y0 y1
        generalize w5.setCell ⟨t8, 1, none⟩ (.int .i64 (-1)) = w7 at Iw7 T8w7 T9w7 ⊢
        have y0 : w7.cell? ⟨t8, 0, none⟩ = some (.int .i64 21) := cell_of T8w7.out
        have y1 : w7.cell? ⟨t9, 1, none⟩ = some (.bool false) := cell_of T9w7.out
        have y11 : w7.cell? ⟨t8, 1, none⟩ = some (.int .i64 (-1)) := cell_of T8w7.out
        have y22 : w7.cell? ⟨t8, 2, none⟩ = some (.int .i64 0) := cell_of T8w7.out
        have y33 : w7.cell? ⟨t8, 3, none⟩ = some (.int .i64 0) := cell_of T8w7.out
        have y44 : w7.cell? ⟨t8, 4, none⟩ = some (.int .u16 0) := cell_of T8w7.out
        have y55 : w7.cell? ⟨t8, 5, none⟩ = some (.slice none 0 0) := cell_of T8w7.out
        have z1 : w7.cell? ⟨t4, 1, none⟩ = some (.slice A q c) := cell_of Iw7.out.b
        have hbs : ∀ u : World, (Instr.buildSlice 27 1 #[(0, .agg #[.int .i64 21, .int .i64 (-1), .int .i64 0, .int .i64 0, .int .u16 0, .slice none 0 0])]).run Tryz.prog u = .ok (.slice (some ⟨u.heap.size, 0, none⟩) 1 1) (u.alloc (.cells #[.int .i64 21, .int .i64 (-1), .int .i64 0, .int .i64 0, .int .u16 0, .slice none 0 0] 33)) := fun u => by kernel_rfl
        have hok : OkOp (⟨21, -1, 0⟩ : Opn) := op_ok_no 21 0 (by unfold OkCode; decide) rfl
        have hno : NOk (⟨21, -1, 0⟩ : Opn) := by
          refine ⟨fun hx => ?_, fun hx hy => ?_⟩
          · rcases hx with hx | hx <;> exact absurd hx (show ¬ ((21 : Int) = _) by decide)
          · rfl
        have hkl : (kept (l ++ [(⟨21, -1, 0⟩ : Opn)])).length = (kept l).length + 1 := by
          rw [kept_snoc]
          rw [if_neg (show ¬ ((21 : Int) = 3) by decide)]; simp
        have OWN := Lib.hid (Iw7.out.low ((Low.refl _ _).alloc (Nat.le_refl _) (.cells #[.int .i64 21, .int .i64 (-1), .int .i64 0, .int .i64 0, .int .u16 0, .slice none 0 0] 33))).o
        have HLE := Iw7.out.lo.size
        have HOK := Lib.hid hok; have HNO := Lib.hid hno; have HKL := Lib.hid hkl
        clear hok hno hkl
        have hkm : ((kept l).length : Int) ≤ 12 := by
          have h1 : (kept l).length ≤ l.length := List.length_filter_le _ _
          have h2 := Iw7.out.hl
          omega
        have hkp : (0 : Int) ≤ ((kept l).length : Int) := by omega
        go_wp2_with (first
          | (at_builtin; refine wpList_app1 (w := w7.alloc (.cells #[.int .i64 21, .int .i64 (-1), .int .i64 0, .int .i64 0, .int .u16 0, .slice none 0 0] 33)) (P := Tryz.prog) (base := w1.heap.size) (n := q) (m := 1) (xs := rowOf l) ap27 rfl (.tmp 66) (.tmp 68) rfl rfl OWN.out rfl (heap_new w7 _) rfl (by simp [Value.oneCell']) (by omega) (Nat.le_trans HLE (by simp)) ?_; intro v9 w9 happ0; obtain ⟨g', c', rfl, x10, f10, hI10⟩ := LI.snoc (o := (⟨21, -1, 0⟩ : Opn)) Iw7.out happ0 HOK.out HNO.out (.inr rfl); have I10 := Lib.hid hI10; clear hI10 happ0 y0 y1 y11 y22 y33 y44 y55 z1))
        exact ⟨⟨q + 1, l ++ [(⟨21, -1, 0⟩ : Opn)], some ⟨g', 0, none⟩, c', by simp, by omega, by omega, by rw [HKL.out]; simp, I10.out⟩, by show 12 - ((q : Int) + 1).toNat < 12 - ((q : Int)).toNat; omega⟩
      · have ho : ores = true := by rw [← hores]; rfl
        subst ho
        clear hores
        have y0 : w5.cell? ⟨t8, 0, none⟩ = some (.int .i64 22) := cell_of T85.out
        have y1 : w5.cell? ⟨t9, 1, none⟩ = some (.bool true) := cell_of T95.out
        have y11 : w5.cell? ⟨t8, 1, none⟩ = some (.int .i64 ((q : Int) + 1)) := cell_of T85.out
        have y22 : w5.cell? ⟨t8, 2, none⟩ = some (.int .i64 0) := cell_of T85.out
        have y33 : w5.cell? ⟨t8, 3, none⟩ = some (.int .i64 0) := cell_of T85.out
        have y44 : w5.cell? ⟨t8, 4, none⟩ = some (.int .u16 0) := cell_of T85.out
        have y55 : w5.cell? ⟨t8, 5, none⟩ = some (.slice none 0 0) := cell_of T85.out
        have z1 : w5.cell? ⟨t4, 1, none⟩ = some (.slice A q c) := cell_of I5.out.b
        have hbs : ∀ u : World, (Instr.buildSlice 27 1 #[(0, .agg #[.int .i64 22, .int .i64 ((q : Int) + 1), .int .i64 0, .int .i64 0, .int .u16 0, .slice none 0 0])]).run Tryz.prog u = .ok (.slice (some ⟨u.heap.size, 0, none⟩) 1 1) (u.alloc (.cells #[.int .i64 22, .int .i64 ((q : Int) + 1), .int .i64 0, .int .i64 0, .int .u16 0, .slice none 0 0] 33)) := fun u => by kernel_rfl
        have hok : OkOp (⟨22, (q : Int) + 1, 0⟩ : Opn) := op_ok_res 22 q 0 (by unfold OkCode; decide) rfl
        have hno : NOk (⟨22, (q : Int) + 1, 0⟩ : Opn) := by
          refine ⟨fun hx => ?_, fun hx hy => ?_⟩
          · rcases hx with hx | hx <;> exact absurd hx (show ¬ ((22 : Int) = _) by decide)
          · rfl
        have hkl : (kept (l ++ [(⟨22, (q : Int) + 1, 0⟩ : Opn)])).length = (kept l).length + 1 := by
          rw [kept_snoc]
          rw [if_neg (show ¬ ((22 : Int) = 3) by decide)]; simp
        have OWN := Lib.hid (I5.out.low ((Low.refl _ _).alloc (Nat.le_refl _) (.cells #[.int .i64 22, .int .i64 ((q : Int) + 1), .int .i64 0, .int .i64 0, .int .u16 0, .slice none 0 0] 33))).o
        have HLE := I5.out.lo.size
        have HOK := Lib.hid hok; have HNO := Lib.hid hno; have HKL := Lib.hid hkl
        clear hok hno hkl
        have hkm : ((kept l).length : Int) ≤ 12 := by
          have h1 : (kept l).length ≤ l.length := List.length_filter_le _ _
          have h2 := I5.out.hl
          omega
        have hkp : (0 : Int) ≤ ((kept l).length : Int) := by omega
        go_wp2_with (first
          | (at_builtin; refine wpList_app1 (w := w5.alloc (.cells #[.int .i64 22, .int .i64 ((q : Int) + 1), .int .i64 0, .int .i64 0, .int .u16 0, .slice none 0 0] 33)) (P := Tryz.prog) (base := w1.heap.size) (n := q) (m := 1) (xs := rowOf l) ap27 rfl (.tmp 66) (.tmp 68) rfl rfl OWN.out rfl (heap_new w5 _) rfl (by simp [Value.oneCell']) (by omega) (Nat.le_trans HLE (by simp)) ?_; intro v9 w9 happ0; obtain ⟨g', c', rfl, x10, f10, hI10⟩ := LI.snoc (o := (⟨22, (q : Int) + 1, 0⟩ : Opn)) I5.out happ0 HOK.out HNO.out (.inl rfl); have I10 := Lib.hid hI10; clear hI10 happ0 y0 y1 y11 y22 y33 y44 y55 z1))
        exact ⟨⟨q + 1, l ++ [(⟨22, (q : Int) + 1, 0⟩ : Opn)], some ⟨g', 0, none⟩, c', by simp, by omega, by omega, by rw [HKL.out]; simp, I10.out⟩, by show 12 - ((q : Int) + 1).toNat < 12 - ((q : Int)).toNat; omega⟩
      · have ho : ores = true := by rw [← hores]; rfl
        subst ho
        clear hores
        have y0 : w5.cell? ⟨t8, 0, none⟩ = some (.int .i64 23) := cell_of T85.out
        have y1 : w5.cell? ⟨t9, 1, none⟩ = some (.bool true) := cell_of T95.out
        have y11 : w5.cell? ⟨t8, 1, none⟩ = some (.int .i64 ((q : Int) + 1)) := cell_of T85.out
        have y22 : w5.cell? ⟨t8, 2, none⟩ = some (.int .i64 0) := cell_of T85.out
        have y33 : w5.cell? ⟨t8, 3, none⟩ = some (.int .i64 0) := cell_of T85.out
        have y44 : w5.cell? ⟨t8, 4, none⟩ = some (.int .u16 0) := cell_of T85.out
        have y55 : w5.cell? ⟨t8, 5, none⟩ = some (.slice none 0 0) := cell_of T85.out
        have z1 : w5.cell? ⟨t4, 1, none⟩ = some (.slice A q c) := cell_of I5.out.b
        have hbs : ∀ u : World, (Instr.buildSlice 27 1 #[(0, .agg #[.int .i64 23, .int .i64 ((q : Int) + 1), .int .i64 0, .int .i64 0, .int .u16 0, .slice none 0 0])]).run Tryz.prog u = .ok (.slice (some ⟨u.heap.size, 0, none⟩) 1 1) (u.alloc (.cells #[.int .i64 23, .int .i64 ((q : Int) + 1), .int .i64 0, .int .i64 0, .int .u16 0, .slice none 0 0] 33)) := fun u => by kernel_rfl
        have hok : OkOp (⟨23, (q : Int) + 1, 0⟩ : Opn) := op_ok_res 23 q 0 (by unfold OkCode; decide) rfl
        have hno : NOk (⟨23, (q : Int) + 1, 0⟩ : Opn) := by
          refine ⟨fun hx => ?_, fun hx hy => ?_⟩
          · rcases hx with hx | hx <;> exact absurd hx (show ¬ ((23 : Int) = _) by decide)
          · rfl
        have hkl : (kept (l ++ [(⟨23, (q : Int) + 1, 0⟩ : Opn)])).length = (kept l).length + 1 := by
          rw [kept_snoc]
          rw [if_neg (show ¬ ((23 : Int) = 3) by decide)]; simp
        have OWN := Lib.hid (I5.out.low ((Low.refl _ _).alloc (Nat.le_refl _) (.cells #[.int .i64 23, .int .i64 ((q : Int) + 1), .int .i64 0, .int .i64 0, .int .u16 0, .slice none 0 0] 33))).o
        have HLE := I5.out.lo.size
        have HOK := Lib.hid hok; have HNO := Lib.hid hno; have HKL := Lib.hid hkl
        clear hok hno hkl
        have hkm : ((kept l).length : Int) ≤ 12 := by
          have h1 : (kept l).length ≤ l.length := List.length_filter_le _ _
          have h2 := I5.out.hl
          omega
        have hkp : (0 : Int) ≤ ((kept l).length : Int) := by omega
        go_wp2_with (first
          | (at_builtin; refine wpList_app1 (w := w5.alloc (.cells #[.int .i64 23, .int .i64 ((q : Int) + 1), .int .i64 0, .int .i64 0, .int .u16 0, .slice none 0 0] 33)) (P := Tryz.prog) (base := w1.heap.size) (n := q) (m := 1) (xs := rowOf l) ap27 rfl (.tmp 66) (.tmp 68) rfl rfl OWN.out rfl (heap_new w5 _) rfl (by simp [Value.oneCell']) (by omega) (Nat.le_trans HLE (by simp)) ?_; intro v9 w9 happ0; obtain ⟨g', c', rfl, x10, f10, hI10⟩ := LI.snoc (o := (⟨23, (q : Int) + 1, 0⟩ : Opn)) I5.out happ0 HOK.out HNO.out (.inl rfl); have I10 := Lib.hid hI10; clear hI10 happ0 y0 y1 y11 y22 y33 y44 y55 z1))
        exact ⟨⟨q + 1, l ++ [(⟨23, (q : Int) + 1, 0⟩ : Opn)], some ⟨g', 0, none⟩, c', by simp, by omega, by omega, by rw [HKL.out]; simp, I10.out⟩, by show 12 - ((q : Int) + 1).toNat < 12 - ((q : Int)).toNat; omega⟩
      · have ho : ores = true := by rw [← hores]; rfl
        subst ho
        clear hores
        have y0 : w5.cell? ⟨t8, 0, none⟩ = some (.int .i64 24) := cell_of T85.out
        have y1 : w5.cell? ⟨t9, 1, none⟩ = some (.bool true) := cell_of T95.out
        have x4 : w5.cell? ⟨t8, 4, none⟩ = some (.int .u16 0) := cell_of T85.out
        have f4 : w5.frozen? ⟨t8, 4, none⟩ = false := free_of T85.out
        have Iw6 := Lib.hid (I5.out.set8 (i := 4) (v := .int .u16 3) HT8.out.1 HT8.out.2.1 HT8.out.2.2.1 HT8.out.2.2.2.1 HT8.out.2.2.2.2)
        have T8w6 := Lib.hid (show (w5.setCell ⟨t8, 4, none⟩ (.int .u16 3)).heap[t8]? = some (.cells #[.int .i64 24, .int .i64 ((q : Int) + 1), .int .i64 0, .int .i64 0, .int .u16 3, .slice none 0 0] 33 (0, 0)) from set_blk T85.out)
        have T9w6 := Lib.hid ((set_other (i := 4) (v := .int .u16 3) H98.out).trans T95.out)
        go_upto_region 12 with fail
        clear x4 f4 y0 y1
        generalize w5.setCell ⟨t8, 4, none⟩ (.int .u16 3) = w6 at Iw6 T8w6 T9w6 ⊢
        have y0 : w6.cell? ⟨t8, 0, none⟩ = some (.int .i64 24) := cell_of T8w6.out
        have y1 : w6.cell? ⟨t9, 1, none⟩ = some (.bool true) := cell_of T9w6.out
        have y11 : w6.cell? ⟨t8, 1, none⟩ = some (.int .i64 ((q : Int) + 1)) := cell_of T8w6.out
        have y22 : w6.cell? ⟨t8, 2, none⟩ = some (.int .i64 0) := cell_of T8w6.out
        have y33 : w6.cell? ⟨t8, 3, none⟩ = some (.int .i64 0) := cell_of T8w6.out
        have y44 : w6.cell? ⟨t8, 4, none⟩ = some (.int .u16 3) := cell_of T8w6.out
        have y55 : w6.cell? ⟨t8, 5, none⟩ = some (.slice none 0 0) := cell_of T8w6.out
        have z1 : w6.cell? ⟨t4, 1, none⟩ = some (.slice A q c) := cell_of Iw6.out.b
        have hbs : ∀ u : World, (Instr.buildSlice 27 1 #[(0, .agg #[.int .i64 24, .int .i64 ((q : Int) + 1), .int .i64 0, .int .i64 0, .int .u16 3, .slice none 0 0])]).run Tryz.prog u = .ok (.slice (some ⟨u.heap.size, 0, none⟩) 1 1) (u.alloc (.cells #[.int .i64 24, .int .i64 ((q : Int) + 1), .int .i64 0, .int .i64 0, .int .u16 3, .slice none 0 0] 33)) := fun u => by kernel_rfl
        have hok : OkOp (⟨24, (q : Int) + 1, 3⟩ : Opn) := op_ok_res 24 q 3 (by unfold OkCode; decide) rfl
        have hno : NOk (⟨24, (q : Int) + 1, 3⟩ : Opn) := by
          refine ⟨fun hx => ?_, fun hx hy => ?_⟩
          · rfl
          · first | exact absurd rfl hx | exact absurd rfl hy
        have hkl : (kept (l ++ [(⟨24, (q : Int) + 1, 3⟩ : Opn)])).length = (kept l).length + 1 := by
          rw [kept_snoc]
          rw [if_neg (show ¬ ((24 : Int) = 3) by decide)]; simp
        have OWN := Lib.hid (Iw6.out.low ((Low.refl _ _).alloc (Nat.le_refl _) (.cells #[.int .i64 24, .int .i64 ((q : Int) + 1), .int .i64 0, .int .i64 0, .int .u16 3, .slice none 0 0] 33))).o
        have HLE := Iw6.out.lo.size
        have HOK := Lib.hid hok; have HNO := Lib.hid hno; have HKL := Lib.hid hkl
        clear hok hno hkl
        have hkm : ((kept l).length : Int) ≤ 12 := by
          have h1 : (kept l).length ≤ l.length := List.length_filter_le _ _
          have h2 := Iw6.out.hl
          omega
        have hkp : (0 : Int) ≤ ((kept l).length : Int) := by omega
        go_wp2_with (first
          | (at_builtin; refine wpList_app1 (w := w6.alloc (.cells #[.int .i64 24, .int .i64 ((q : Int) + 1), .int .i64 0, .int .i64 0, .int .u16 3, .slice none 0 0] 33)) (P := Tryz.prog) (base := w1.heap.size) (n := q) (m := 1) (xs := rowOf l) ap27 rfl (.tmp 66) (.tmp 68) rfl rfl OWN.out rfl (heap_new w6 _) rfl (by simp [Value.oneCell']) (by omega) (Nat.le_trans HLE (by simp)) ?_; intro v9 w9 happ0; obtain ⟨g', c', rfl, x10, f10, hI10⟩ := LI.snoc (o := (⟨24, (q : Int) + 1, 3⟩ : Opn)) Iw6.out happ0 HOK.out HNO.out (.inl rfl); have I10 := Lib.hid hI10; clear hI10 happ0 y0 y1 y11 y22 y33 y44 y55 z1))
        exact ⟨⟨q + 1, l ++ [(⟨24, (q : Int) + 1, 3⟩ : Opn)], some ⟨g', 0, none⟩, c', by simp, by omega, by omega, by rw [HKL.out]; simp, I10.out⟩, by show 12 - ((q : Int) + 1).toNat < 12 - ((q : Int)).toNat; omega⟩
      · have ho : ores = false := by rw [← hores]; rfl
        subst ho
        clear hores
        have y0 : w5.cell? ⟨t8, 0, none⟩ = some (.int .i64 25) := cell_of T85.out
        have y1 : w5.cell? ⟨t9, 1, none⟩ = some (.bool false) := cell_of T95.out
        have x4 : w5.cell? ⟨t8, 4, none⟩ = some (.int .u16 0) := cell_of T85.out
        have f4 : w5.frozen? ⟨t8, 4, none⟩ = false := free_of T85.out
        have Iw6 := Lib.hid (I5.out.set8 (i := 4) (v := .int .u16 3) HT8.out.1 HT8.out.2.1 HT8.out.2.2.1 HT8.out.2.2.2.1 HT8.out.2.2.2.2)
        have T8w6 := Lib.hid (show (w5.setCell ⟨t8, 4, none⟩ (.int .u16 3)).heap[t8]? = some (.cells #[.int .i64 25, .int .i64 ((q : Int) + 1), .int .i64 0, .int .i64 0, .int .u16 3, .slice none 0 0] 33 (0, 0)) from set_blk T85.out)
        have T9w6 := Lib.hid ((set_other (i := 4) (v := .int .u16 3) H98.out).trans T95.out)
        go_upto_region 12 with fail
        clear x4 f4 y0 y1
        generalize w5.setCell ⟨t8, 4, none⟩ (.int .u16 3) = w6 at Iw6 T8w6 T9w6 ⊢
        have y0 : w6.cell? ⟨t8, 0, none⟩ = some (.int .i64 25) := cell_of T8w6.out
        have y1 : w6.cell? ⟨t9, 1, none⟩ = some (.bool false) := cell_of T9w6.out
        have x1 : w6.cell? ⟨t8, 1, none⟩ = some (.int .i64 ((q : Int) + 1)) := cell_of T8w6.out
        have f1 : w6.frozen? ⟨t8, 1, none⟩ = false := free_of T8w6.out
        have Iw7 := Lib.hid (Iw6.out.set8 (i := 1) (v := .int .i64 (-1)) HT8.out.1 HT8.out.2.1 HT8.out.2.2.1 HT8.out.2.2.2.1 HT8.out.2.2.2.2)
        have T8w7 := Lib.hid (show (w6.setCell ⟨t8, 1, none⟩ (.int .i64 (-1))).heap[t8]? = some (.cells #[.int .i64 25, .int .i64 (-1), .int .i64 0, .int .i64 0, .int .u16 3, .slice none 0 0] 33 (0, 0)) from set_blk T8w6.out)
        have T9w7 := Lib.hid ((set_other (i := 1) (v := .int .i64 (-1)) H98.out).trans T9w6.out)
        go_upto_region 14 with fail
        clear x1 f1 y0 y1
        generalize w6.setCell ⟨t8, 1, none⟩ (.int .i64 (-1)) = w7 at Iw7 T8w7 T9w7 ⊢
        have y0 : w7.cell? ⟨t8, 0, none⟩ = some (.int .i64 25) := cell_of T8w7.out
        have y1 : w7.cell? ⟨t9, 1, none⟩ = some (.bool false) := cell_of T9w7.out
        have y11 : w7.cell? ⟨t8, 1, none⟩ = some (.int .i64 (-1)) := cell_of T8w7.out
        have y22 : w7.cell? ⟨t8, 2, none⟩ = some (.int .i64 0) := cell_of T8w7.out
        have y33 : w7.cell? ⟨t8, 3, none⟩ = some (.int .i64 0) := cell_of T8w7.out
        have y44 : w7.cell? ⟨t8, 4, none⟩ = some (.int .u16 3) := cell_of T8w7.out
        have y55 : w7.cell? ⟨t8, 5, none⟩ = some (.slice none 0 0) := cell_of T8w7.out
        have z1 : w7.cell? ⟨t4, 1, none⟩ = some (.slice A q c) := cell_of Iw7.out.b
        have hbs : ∀ u : World, (Instr.buildSlice 27 1 #[(0, .agg #[.int .i64 25, .int .i64 (-1), .int .i64 0, .int .i64 0, .int .u16 3, .slice none 0 0])]).run Tryz.prog u = .ok (.slice (some ⟨u.heap.size, 0, none⟩) 1 1) (u.alloc (.cells #[.int .i64 25, .int .i64 (-1), .int .i64 0, .int .i64 0, .int .u16 3, .slice none 0 0] 33)) := fun u => by kernel_rfl
        have hok : OkOp (⟨25, -1, 3⟩ : Opn) := op_ok_no 25 3 (by unfold OkCode; decide) rfl
        have hno : NOk (⟨25, -1, 3⟩ : Opn) := by
          refine ⟨fun hx => ?_, fun hx hy => ?_⟩
          · rfl
          · first | exact absurd rfl hx | exact absurd rfl hy
        have hkl : (kept (l ++ [(⟨25, -1, 3⟩ : Opn)])).length = (kept l).length + 1 := by
          rw [kept_snoc]
          rw [if_neg (show ¬ ((25 : Int) = 3) by decide)]; simp
        have OWN := Lib.hid (Iw7.out.low ((Low.refl _ _).alloc (Nat.le_refl _) (.cells #[.int .i64 25, .int .i64 (-1), .int .i64 0, .int .i64 0, .int .u16 3, .slice none 0 0] 33))).o
        have HLE := Iw7.out.lo.size
        have HOK := Lib.hid hok; have HNO := Lib.hid hno; have HKL := Lib.hid hkl
        clear hok hno hkl
        have hkm : ((kept l).length : Int) ≤ 12 := by
          have h1 : (kept l).length ≤ l.length := List.length_filter_le _ _
          have h2 := Iw7.out.hl
          omega
        have hkp : (0 : Int) ≤ ((kept l).length : Int) := by omega
        go_wp2_with (first
          | (at_builtin; refine wpList_app1 (w := w7.alloc (.cells #[.int .i64 25, .int .i64 (-1), .int .i64 0, .int .i64 0, .int .u16 3, .slice none 0 0] 33)) (P := Tryz.prog) (base := w1.heap.size) (n := q) (m := 1) (xs := rowOf l) ap27 rfl (.tmp 66) (.tmp 68) rfl rfl OWN.out rfl (heap_new w7 _) rfl (by simp [Value.oneCell']) (by omega) (Nat.le_trans HLE (by simp)) ?_; intro v9 w9 happ0; obtain ⟨g', c', rfl, x10, f10, hI10⟩ := LI.snoc (o := (⟨25, -1, 3⟩ : Opn)) Iw7.out happ0 HOK.out HNO.out (.inr rfl); have I10 := Lib.hid hI10; clear hI10 happ0 y0 y1 y11 y22 y33 y44 y55 z1))
        exact ⟨⟨q + 1, l ++ [(⟨25, -1, 3⟩ : Opn)], some ⟨g', 0, none⟩, c', by simp, by omega, by omega, by rw [HKL.out]; simp, I10.out⟩, by show 12 - ((q : Int) + 1).toNat < 12 - ((q : Int)).toNat; omega⟩
      · have ho : ores = false := by rw [← hores]; rfl
        subst ho
        clear hores
        have y0 : w5.cell? ⟨t8, 0, none⟩ = some (.int .i64 26) := cell_of T85.out
        have y1 : w5.cell? ⟨t9, 1, none⟩ = some (.bool false) := cell_of T95.out
        have x1 : w5.cell? ⟨t8, 1, none⟩ = some (.int .i64 ((q : Int) + 1)) := cell_of T85.out
        have f1 : w5.frozen? ⟨t8, 1, none⟩ = false := free_of T85.out
        have Iw7 := Lib.hid (I5.out.set8 (i := 1) (v := .int .i64 (-1)) HT8.out.1 HT8.out.2.1 HT8.out.2.2.1 HT8.out.2.2.2.1 HT8.out.2.2.2.2)
        have T8w7 := Lib.hid (show (w5.setCell ⟨t8, 1, none⟩ (.int .i64 (-1))).heap[t8]? = some (.cells #[.int .i64 26, .int .i64 (-1), .int .i64 0, .int .i64 0, .int .u16 0, .slice none 0 0] 33 (0, 0)) from set_blk T85.out)
        have T9w7 := Lib.hid ((set_other (i := 1) (v := .int .i64 (-1)) H98.out).trans T95.out)
        go_upto_region 14 with fail
        clear x1 f1 y0 y1
        generalize w5.setCell ⟨t8, 1, none⟩ (.int .i64 (-1)) = w7 at Iw7 T8w7 T9w7 ⊢
        have y0 : w7.cell? ⟨t8, 0, none⟩ = some (.int .i64 26) := cell_of T8w7.out
        have y1 : w7.cell? ⟨t9, 1, none⟩ = some (.bool false) := cell_of T9w7.out
        have y11 : w7.cell? ⟨t8, 1, none⟩ = some (.int .i64 (-1)) := cell_of T8w7.out
        have y22 : w7.cell? ⟨t8, 2, none⟩ = some (.int .i64 0) := cell_of T8w7.out
        have y33 : w7.cell? ⟨t8, 3, none⟩ = some (.int .i64 0) := cell_of T8w7.out
        have y44 : w7.cell? ⟨t8, 4, none⟩ = some (.int .u16 0) := cell_of T8w7.out
        have y55 : w7.cell? ⟨t8, 5, none⟩ = some (.slice none 0 0) := cell_of T8w7.out
        have z1 : w7.cell? ⟨t4, 1, none⟩ = some (.slice A q c) := cell_of Iw7.out.b
        have hbs : ∀ u : World, (Instr.buildSlice 27 1 #[(0, .agg #[.int .i64 26, .int .i64 (-1), .int .i64 0, .int .i64 0, .int .u16 0, .slice none 0 0])]).run Tryz.prog u = .ok (.slice (some ⟨u.heap.size, 0, none⟩) 1 1) (u.alloc (.cells #[.int .i64 26, .int .i64 (-1), .int .i64 0, .int .i64 0, .int .u16 0, .slice none 0 0] 33)) := fun u => by kernel_rfl
        have hok : OkOp (⟨26, -1, 0⟩ : Opn) := op_ok_no 26 0 (by unfold OkCode; decide) rfl
        have hno : NOk (⟨26, -1, 0⟩ : Opn) := by
          refine ⟨fun hx => ?_, fun hx hy => ?_⟩
          · rcases hx with hx | hx <;> exact absurd hx (show ¬ ((26 : Int) = _) by decide)
          · rfl
        have hkl : (kept (l ++ [(⟨26, -1, 0⟩ : Opn)])).length = (kept l).length + 1 := by
          rw [kept_snoc]
          rw [if_neg (show ¬ ((26 : Int) = 3) by decide)]; simp
        have OWN := Lib.hid (Iw7.out.low ((Low.refl _ _).alloc (Nat.le_refl _) (.cells #[.int .i64 26, .int .i64 (-1), .int .i64 0, .int .i64 0, .int .u16 0, .slice none 0 0] 33))).o
        have HLE := Iw7.out.lo.size
        have HOK := Lib.hid hok; have HNO := Lib.hid hno; have HKL := Lib.hid hkl
        clear hok hno hkl
        have hkm : ((kept l).length : Int) ≤ 12 := by
          have h1 : (kept l).length ≤ l.length := List.length_filter_le _ _
          have h2 := Iw7.out.hl
          omega
        have hkp : (0 : Int) ≤ ((kept l).length : Int) := by omega
        go_wp2_with (first
          | (at_builtin; refine wpList_app1 (w := w7.alloc (.cells #[.int .i64 26, .int .i64 (-1), .int .i64 0, .int .i64 0, .int .u16 0, .slice none 0 0] 33)) (P := Tryz.prog) (base := w1.heap.size) (n := q) (m := 1) (xs := rowOf l) ap27 rfl (.tmp 66) (.tmp 68) rfl rfl OWN.out rfl (heap_new w7 _) rfl (by simp [Value.oneCell']) (by omega) (Nat.le_trans HLE (by simp)) ?_; intro v9 w9 happ0; obtain ⟨g', c', rfl, x10, f10, hI10⟩ := LI.snoc (o := (⟨26, -1, 0⟩ : Opn)) Iw7.out happ0 HOK.out HNO.out (.inr rfl); have I10 := Lib.hid hI10; clear hI10 happ0 y0 y1 y11 y22 y33 y44 y55 z1))
        exact ⟨⟨q + 1, l ++ [(⟨26, -1, 0⟩ : Opn)], some ⟨g', 0, none⟩, c', by simp, by omega, by omega, by rw [HKL.out]; simp, I10.out⟩, by show 12 - ((q : Int) + 1).toNat < 12 - ((q : Int)).toNat; omega⟩
      · have ho : ores = false := by rw [← hores]; rfl
        subst ho
        clear hores
        have y0 : w5.cell? ⟨t8, 0, none⟩ = some (.int .i64 27) := cell_of T85.out
        have y1 : w5.cell? ⟨t9, 1, none⟩ = some (.bool false) := cell_of T95.out
        have x1 : w5.cell? ⟨t8, 1, none⟩ = some (.int .i64 ((q : Int) + 1)) := cell_of T85.out
        have f1 : w5.frozen? ⟨t8, 1, none⟩ = false := free_of T85.out
        have Iw7 := Lib.hid (I5.out.set8 (i := 1) (v := .int .i64 (-1)) HT8.out.1 HT8.out.2.1 HT8.out.2.2.1 HT8.out.2.2.2.1 HT8.out.2.2.2.2)
        have T8w7 := Lib.hid (show (w5.setCell ⟨t8, 1, none⟩ (.int .i64 (-1))).heap[t8]? = some (.cells #[.int .i64 27, .int .i64 (-1), .int .i64 0, .int .i64 0, .int .u16 0, .slice none 0 0] 33 (0, 0)) from set_blk T85.out)
        have T9w7 := Lib.hid ((set_other (i := 1) (v := .int .i64 (-1)) H98.out).trans T95.out)
        go_upto_region 14 with fail
        clear x1 f1 y0 y1
        generalize w5.setCell ⟨t8, 1, none⟩ (.int .i64 (-1)) = w7 at Iw7 T8w7 T9w7 ⊢
        have y0 : w7.cell? ⟨t8, 0, none⟩ = some (.int .i64 27) := cell_of T8w7.out
        have y1 : w7.cell? ⟨t9, 1, none⟩ = some (.bool false) := cell_of T9w7.out
        have y11 : w7.cell? ⟨t8, 1, none⟩ = some (.int .i64 (-1)) := cell_of T8w7.out
        have y22 : w7.cell? ⟨t8, 2, none⟩ = some (.int .i64 0) := cell_of T8w7.out
        have y33 : w7.cell? ⟨t8, 3, none⟩ = some (.int .i64 0) := cell_of T8w7.out
        have y44 : w7.cell? ⟨t8, 4, none⟩ = some (.int .u16 0) := cell_of T8w7.out
        have y55 : w7.cell? ⟨t8, 5, none⟩ = some (.slice none 0 0) := cell_of T8w7.out
        have z1 : w7.cell? ⟨t4, 1, none⟩ = some (.slice A q c) := cell_of Iw7.out.b
        have hbs : ∀ u : World, (Instr.buildSlice 27 1 #[(0, .agg #[.int .i64 27, .int .i64 (-1), .int .i64 0, .int .i64 0, .int .u16 0, .slice none 0 0])]).run Tryz.prog u = .ok (.slice (some ⟨u.heap.size, 0, none⟩) 1 1) (u.alloc (.cells #[.int .i64 27, .int .i64 (-1), .int .i64 0, .int .i64 0, .int .u16 0, .slice none 0 0] 33)) := fun u => by kernel_rfl
        have hok : OkOp (⟨27, -1, 0⟩ : Opn) := op_ok_no 27 0 (by unfold OkCode; decide) rfl
        have hno : NOk (⟨27, -1, 0⟩ : Opn) := by
          refine ⟨fun hx => ?_, fun hx hy => ?_⟩
          · rcases hx with hx | hx <;> exact absurd hx (show ¬ ((27 : Int) = _) by decide)
          · rfl
        have hkl : (kept (l ++ [(⟨27, -1, 0⟩ : Opn)])).length = (kept l).length + 1 := by
          rw [kept_snoc]
          rw [if_neg (show ¬ ((27 : Int) = 3) by decide)]; simp
        have OWN := Lib.hid (Iw7.out.low ((Low.refl _ _).alloc (Nat.le_refl _) (.cells #[.int .i64 27, .int .i64 (-1), .int .i64 0, .int .i64 0, .int .u16 0, .slice none 0 0] 33))).o
        have HLE := Iw7.out.lo.size
        have HOK := Lib.hid hok; have HNO := Lib.hid hno; have HKL := Lib.hid hkl
        clear hok hno hkl
        have hkm : ((kept l).length : Int) ≤ 12 := by
          have h1 : (kept l).length ≤ l.length := List.length_filter_le _ _
          have h2 := Iw7.out.hl
          omega
        have hkp : (0 : Int) ≤ ((kept l).length : Int) := by omega
        go_wp2_with (first
          | (at_builtin; refine wpList_app1 (w := w7.alloc (.cells #[.int .i64 27, .int .i64 (-1), .int .i64 0, .int .i64 0, .int .u16 0, .slice none 0 0] 33)) (P := Tryz.prog) (base := w1.heap.size) (n := q) (m := 1) (xs := rowOf l) ap27 rfl (.tmp 66) (.tmp 68) rfl rfl OWN.out rfl (heap_new w7 _) rfl (by simp [Value.oneCell']) (by omega) (Nat.le_trans HLE (by simp)) ?_; intro v9 w9 happ0; obtain ⟨g', c', rfl, x10, f10, hI10⟩ := LI.snoc (o := (⟨27, -1, 0⟩ : Opn)) Iw7.out happ0 HOK.out HNO.out (.inr rfl); have I10 := Lib.hid hI10; clear hI10 happ0 y0 y1 y11 y22 y33 y44 y55 z1))
        exact ⟨⟨q + 1, l ++ [(⟨27, -1, 0⟩ : Opn)], some ⟨g', 0, none⟩, c', by simp, by omega, by omega, by rw [HKL.out]; simp, I10.out⟩, by show 12 - ((q : Int) + 1).toNat < 12 - ((q : Int)).toNat; omega⟩
    · by_cases hq1 : q < la
      · have hq1' : (q : Int) < (la : Int) := by omega
        have hq2' : ¬ (q : Int) < 12 := by omega
        have HI := Lib.hid hI
        clear hI
        obtain ⟨A', c', hv', hops⟩ := OpsAt.of_own HI.out.o
        cases hv'
        have y0 : wv.cell? ⟨t4, 0, none⟩ = some (.slice (some ⟨gp, 0, none⟩) 1 1) := cell_of HI.out.b
        have y1 : wv.cell? ⟨t4, 1, none⟩ = some (.slice A q c) := cell_of HI.out.b
        have y2 : wv.cell? ⟨t4, 2, none⟩ = some (.int .i64 4) := cell_of HI.out.b
        have y3 : wv.cell? ⟨t4, 3, none⟩ = some (.int .i64 (-1)) := cell_of HI.out.b
        have y4 : wv.cell? ⟨t4, 4, none⟩ = some (.slice none 0 0) := cell_of HI.out.b
        have lF : Low wv.heap.size wv (wv.alloc (.cells #[.slice (some ⟨gp, 0, none⟩) 1 1, .slice A q c, .int .i64 4, .int .i64 (-1), .slice none 0 0] 29)) := (Low.refl _ _).alloc (Nat.le_refl _) _
        have hF : FnAt (wv.alloc (.cells #[.slice (some ⟨gp, 0, none⟩) 1 1, .slice A q c, .int .i64 4, .int .i64 (-1), .slice none 0 0] 29)) wv.heap.size (some ⟨gp, 0, none⟩) 1 A q c none 0 l := ⟨⟨_, heap_new _ _, rfl, rfl, rfl, rfl, rfl⟩, hops.low lF, ⟨gp, #[.int .i64 0], rfl, Nat.le_refl 1, lF.some HI.out.p, rfl⟩, HI.out.hm.ok, hq, HI.out.hm.inc⟩
        have hsim := simplify_of (wv.alloc (.cells #[.slice (some ⟨gp, 0, none⟩) 1 1, .slice A q c, .int .i64 4, .int .i64 (-1), .slice none 0 0] 29)) wv.heap.size 1 (some ⟨gp, 0, none⟩) 1 A q c none 0 l hF (fun u hu => wellformed_any u wv.heap.size 1 (some ⟨gp, 0, none⟩) 1 A q c none 0 l (hF.low hu) HI.out.hm.no (fun o ho => by have := HI.out.hm.top o ho; have := HI.out.hl; omega))
        have hbs : ∀ u : World, (Instr.buildSlice 37 1 #[(0, .agg #[.slice (some ⟨gp, 0, none⟩) 1 1, .slice A q c, .int .i64 4, .int .i64 (-1), .slice none 0 0])]).run Tryz.prog u = .ok (.slice (some ⟨u.heap.size, 0, none⟩) 1 1) (u.alloc (.cells #[.slice (some ⟨gp, 0, none⟩) 1 1, .slice A q c, .int .i64 4, .int .i64 (-1), .slice none 0 0] 29)) := fun u => by kernel_rfl
        have IF := Lib.hid (HI.out.low lF)
        clear hF lF hops
        go_upto_region 18 with (first
          | (go_at_call 7; with_reducible refine hsim.mono ?_; rintro e w6 ⟨l6, g', cr, Pp', pc', A', n', c', T', tc', rfl, hcr, hF6⟩))
        have l7 : Low w6.heap.size w6 (w6.alloc (.cells #[.slice (some ⟨g', 0, none⟩) 1 cr] 39)) := (Low.refl _ _).alloc (Nat.le_refl _) _
        have a7 := heap_new w6 (.cells #[.slice (some ⟨g', 0, none⟩) 1 cr] 39)
        obtain rfl : n' = (kept l).length := by rw [← hF6.ops.1]; exact kept_renum_length l 1 1
        have I7 := Lib.hid (IF.out.low (Low.trans l6 (Low.mono l7 l6.size))); have H7 := Lib.hid (hF6.low l7)
        clear hsim hbs l6 hF6 IF y0 y1 y2 y3 y4 l7
        obtain ⟨t10, ht10⟩ : ∃ t, t = w6.heap.size := ⟨_, rfl⟩
        rw [← ht10] at a7 ⊢
        clear ht10
        generalize w6.alloc (.cells #[.slice (some ⟨g', 0, none⟩) 1 cr] 39) = w7 at a7 I7 H7 ⊢
        have T7 := Lib.hid a7
        have y10 : w7.cell? ⟨t10, 0, none⟩ = some (.slice (some ⟨g', 0, none⟩) 1 cr) := cell_of a7
        have y1 : w7.cell? ⟨g', 1, none⟩ = some (.slice A' (kept l).length c') := by
          obtain ⟨cs0, r0, r1, r2, _⟩ := H7.out.row
          exact (cell_of r0).trans r2
        clear a7
        go_wp2_with fail
        go_loopw [12, 11] (fun i a wr => ∃ j : Nat, i = .int .i64 j ∧ j ≤ q ∧ a = .int .i64 ((kept (l.take j)).length : Nat) ∧ Low w7.heap.size w7 wr) (fun i _ _ => q - (intOf i).toNat)
        case atStart => exact ⟨0, rfl, by omega, rfl, Low.refl _ _⟩
        case round =>
          obtain ⟨wz, rfl⟩ : ∃ u, u = wr := ⟨_, rfl⟩
          obtain ⟨j, rfl, hj, rfl, hl⟩ := hrel
          have iz := I7.out.low hl
          have hz := H7.out.low hl
          have zt : wz.cell? ⟨t4, 1, none⟩ = some (.slice A q c) := cell_of iz.b
          have z10 : wz.cell? ⟨t10, 0, none⟩ = some (.slice (some ⟨g', 0, none⟩) 1 cr) := cell_of (hl.some T7.out)
          have z1 : wz.cell? ⟨g', 1, none⟩ = some (.slice A' (kept l).length c') := by
            obtain ⟨cs0, r0, r1, r2, _⟩ := hz.row
            exact (cell_of r0).trans r2
          by_cases hlt : j < q
          · have hlt' : (j : Int) < (q : Int) := by omega
            have hj0 : (0 : Int) ≤ (j : Int) := by omega
            have hj12 : (j : Int) ≤ 12 := by omega
            obtain ⟨o, ho⟩ : ∃ o, l[j]? = some o := ⟨_, List.getElem?_eq_getElem (by have := iz.hl; omega)⟩
            obtain ⟨A2, c2, hv2, hops2⟩ := OpsAt.of_own iz.o
            cases hv2
            obtain ⟨ga, cs1, rfl, hnc, hg, k0, _⟩ := hops2.2 j o ho
            have x0 : wz.cell? ⟨ga, j * 6, none⟩ = some (.int .i64 o.code) := (cell_of hg).trans k0
            have hkt := kept_take ho
            have HKT := Lib.hid hkt
            have HO := Lib.hid ho
            clear hkt ho hg k0 hops2 hnc iz
            by_cases h3 : o.code = 3
            · rw [h3] at x0
              have hk2 := HKT.out
              rw [if_pos h3] at hk2
              have HK2 := Lib.hid hk2
              clear hk2 h3 hz
              have HL := Lib.hid hl
              clear hl
              go_wp2_with fail
              exact ⟨⟨j + 1, by simp, hlt, by rw [HK2.out], HL.out⟩, by show q - ((j : Int) + 1).toNat < q - ((j : Int)).toNat; omega⟩
            · have hk2 := HKT.out
              rw [if_neg h3] at hk2
              obtain ⟨o', ho', hcode⟩ := kept_at HO.out h3 1 1
              obtain ⟨gA, cs2, rfl, hnc2, hg2, k2, _⟩ := hz.ops.2 _ o' ho'
              have x2 : wz.cell? ⟨gA, (kept (l.take j)).length * 6, none⟩ = some (.int .i64 o.code) := by rw [← hcode]; exact (cell_of hg2).trans k2
              have hat : (kept (l.take j)).length < (kept l).length := by
                have h1 := (List.getElem?_eq_some_iff.1 ho').1
                rw [kept_renum_length] at h1
                exact h1
              have hat' : ((kept (l.take j)).length : Int) < ((kept l).length : Int) := by omega
              have hat0 : (0 : Int) ≤ ((kept (l.take j)).length : Int) := by omega
              have hat12 : ((kept (l.take j)).length : Int) ≤ 12 := by
                have h1 : (kept (l.take j)).length ≤ (l.take j).length := List.length_filter_le _ _
                have h2 : (l.take j).length ≤ j := List.length_take_le _ _
                omega
              have HK2 := Lib.hid hk2
              have HL := Lib.hid hl
              clear hk2 hz ho' hcode hg2 k2 hnc2 hl hat
              go_upto_region 25 with fail
              go_quiet (fail)
              go_wp2_with fail
              exact ⟨⟨j + 1, by simp, hlt, by rw [HK2.out]; simp, HL.out.trans ((Low.refl _ _).drewN _)⟩, by show q - ((j : Int) + 1).toNat < q - ((j : Int)).toNat; omega⟩
          · have hlt' : ¬ (j : Int) < (q : Int) := by omega
            obtain rfl : j = q := by omega
            have HF := Lib.hid (World.keptBut_trans HK1.out ((I7.out.lo.trans (hl.mono I7.out.lo.size)).frame (fun _ => False)))
            clear hl iz hz z10 z1
            go_wp2_with fail
            go_ret
            exact ⟨rfl, HF.out⟩
      · have hq1' : ¬ (q : Int) < (la : Int) := by omega
        have HI := Lib.hid hI
        clear hI
        obtain ⟨A', c', hv', hops⟩ := OpsAt.of_own HI.out.o
        cases hv'
        have y0 : wv.cell? ⟨t4, 0, none⟩ = some (.slice (some ⟨gp, 0, none⟩) 1 1) := cell_of HI.out.b
        have y1 : wv.cell? ⟨t4, 1, none⟩ = some (.slice A q c) := cell_of HI.out.b
        have y2 : wv.cell? ⟨t4, 2, none⟩ = some (.int .i64 4) := cell_of HI.out.b
        have y3 : wv.cell? ⟨t4, 3, none⟩ = some (.int .i64 (-1)) := cell_of HI.out.b
        have y4 : wv.cell? ⟨t4, 4, none⟩ = some (.slice none 0 0) := cell_of HI.out.b
        have lF : Low wv.heap.size wv (wv.alloc (.cells #[.slice (some ⟨gp, 0, none⟩) 1 1, .slice A q c, .int .i64 4, .int .i64 (-1), .slice none 0 0] 29)) := (Low.refl _ _).alloc (Nat.le_refl _) _
        have hF : FnAt (wv.alloc (.cells #[.slice (some ⟨gp, 0, none⟩) 1 1, .slice A q c, .int .i64 4, .int .i64 (-1), .slice none 0 0] 29)) wv.heap.size (some ⟨gp, 0, none⟩) 1 A q c none 0 l := ⟨⟨_, heap_new _ _, rfl, rfl, rfl, rfl, rfl⟩, hops.low lF, ⟨gp, #[.int .i64 0], rfl, Nat.le_refl 1, lF.some HI.out.p, rfl⟩, HI.out.hm.ok, hq, HI.out.hm.inc⟩
        have hsim := simplify_of (wv.alloc (.cells #[.slice (some ⟨gp, 0, none⟩) 1 1, .slice A q c, .int .i64 4, .int .i64 (-1), .slice none 0 0] 29)) wv.heap.size 1 (some ⟨gp, 0, none⟩) 1 A q c none 0 l hF (fun u hu => wellformed_any u wv.heap.size 1 (some ⟨gp, 0, none⟩) 1 A q c none 0 l (hF.low hu) HI.out.hm.no (fun o ho => by have := HI.out.hm.top o ho; have := HI.out.hl; omega))
        have hbs : ∀ u : World, (Instr.buildSlice 37 1 #[(0, .agg #[.slice (some ⟨gp, 0, none⟩) 1 1, .slice A q c, .int .i64 4, .int .i64 (-1), .slice none 0 0])]).run Tryz.prog u = .ok (.slice (some ⟨u.heap.size, 0, none⟩) 1 1) (u.alloc (.cells #[.slice (some ⟨gp, 0, none⟩) 1 1, .slice A q c, .int .i64 4, .int .i64 (-1), .slice none 0 0] 29)) := fun u => by kernel_rfl
        have IF := Lib.hid (HI.out.low lF)
        clear hF lF hops
        go_upto_region 18 with (first
          | (go_at_call 7; with_reducible refine hsim.mono ?_; rintro e w6 ⟨l6, g', cr, Pp', pc', A', n', c', T', tc', rfl, hcr, hF6⟩))
        have l7 : Low w6.heap.size w6 (w6.alloc (.cells #[.slice (some ⟨g', 0, none⟩) 1 cr] 39)) := (Low.refl _ _).alloc (Nat.le_refl _) _
        have a7 := heap_new w6 (.cells #[.slice (some ⟨g', 0, none⟩) 1 cr] 39)
        obtain rfl : n' = (kept l).length := by rw [← hF6.ops.1]; exact kept_renum_length l 1 1
        have I7 := Lib.hid (IF.out.low (Low.trans l6 (Low.mono l7 l6.size))); have H7 := Lib.hid (hF6.low l7)
        clear hsim hbs l6 hF6 IF y0 y1 y2 y3 y4 l7
        obtain ⟨t10, ht10⟩ : ∃ t, t = w6.heap.size := ⟨_, rfl⟩
        rw [← ht10] at a7 ⊢
        clear ht10
        generalize w6.alloc (.cells #[.slice (some ⟨g', 0, none⟩) 1 cr] 39) = w7 at a7 I7 H7 ⊢
        have T7 := Lib.hid a7
        have y10 : w7.cell? ⟨t10, 0, none⟩ = some (.slice (some ⟨g', 0, none⟩) 1 cr) := cell_of a7
        have y1 : w7.cell? ⟨g', 1, none⟩ = some (.slice A' (kept l).length c') := by
          obtain ⟨cs0, r0, r1, r2, _⟩ := H7.out.row
          exact (cell_of r0).trans r2
        clear a7
        go_wp2_with fail
        go_loopw [12, 11] (fun i a wr => ∃ j : Nat, i = .int .i64 j ∧ j ≤ q ∧ a = .int .i64 ((kept (l.take j)).length : Nat) ∧ Low w7.heap.size w7 wr) (fun i _ _ => q - (intOf i).toNat)
        case atStart => exact ⟨0, rfl, by omega, rfl, Low.refl _ _⟩
        case round =>
          obtain ⟨wz, rfl⟩ : ∃ u, u = wr := ⟨_, rfl⟩
          obtain ⟨j, rfl, hj, rfl, hl⟩ := hrel
          have iz := I7.out.low hl
          have hz := H7.out.low hl
          have zt : wz.cell? ⟨t4, 1, none⟩ = some (.slice A q c) := cell_of iz.b
          have z10 : wz.cell? ⟨t10, 0, none⟩ = some (.slice (some ⟨g', 0, none⟩) 1 cr) := cell_of (hl.some T7.out)
          have z1 : wz.cell? ⟨g', 1, none⟩ = some (.slice A' (kept l).length c') := by
            obtain ⟨cs0, r0, r1, r2, _⟩ := hz.row
            exact (cell_of r0).trans r2
          by_cases hlt : j < q
          · have hlt' : (j : Int) < (q : Int) := by omega
            have hj0 : (0 : Int) ≤ (j : Int) := by omega
            have hj12 : (j : Int) ≤ 12 := by omega
            obtain ⟨o, ho⟩ : ∃ o, l[j]? = some o := ⟨_, List.getElem?_eq_getElem (by have := iz.hl; omega)⟩
            obtain ⟨A2, c2, hv2, hops2⟩ := OpsAt.of_own iz.o
            cases hv2
            obtain ⟨ga, cs1, rfl, hnc, hg, k0, _⟩ := hops2.2 j o ho
            have x0 : wz.cell? ⟨ga, j * 6, none⟩ = some (.int .i64 o.code) := (cell_of hg).trans k0
            have hkt := kept_take ho
            have HKT := Lib.hid hkt
            have HO := Lib.hid ho
            clear hkt ho hg k0 hops2 hnc iz
            by_cases h3 : o.code = 3
            · rw [h3] at x0
              have hk2 := HKT.out
              rw [if_pos h3] at hk2
              have HK2 := Lib.hid hk2
              clear hk2 h3 hz
              have HL := Lib.hid hl
              clear hl
              go_wp2_with fail
              exact ⟨⟨j + 1, by simp, hlt, by rw [HK2.out], HL.out⟩, by show q - ((j : Int) + 1).toNat < q - ((j : Int)).toNat; omega⟩
            · have hk2 := HKT.out
              rw [if_neg h3] at hk2
              obtain ⟨o', ho', hcode⟩ := kept_at HO.out h3 1 1
              obtain ⟨gA, cs2, rfl, hnc2, hg2, k2, _⟩ := hz.ops.2 _ o' ho'
              have x2 : wz.cell? ⟨gA, (kept (l.take j)).length * 6, none⟩ = some (.int .i64 o.code) := by rw [← hcode]; exact (cell_of hg2).trans k2
              have hat : (kept (l.take j)).length < (kept l).length := by
                have h1 := (List.getElem?_eq_some_iff.1 ho').1
                rw [kept_renum_length] at h1
                exact h1
              have hat' : ((kept (l.take j)).length : Int) < ((kept l).length : Int) := by omega
              have hat0 : (0 : Int) ≤ ((kept (l.take j)).length : Int) := by omega
              have hat12 : ((kept (l.take j)).length : Int) ≤ 12 := by
                have h1 : (kept (l.take j)).length ≤ (l.take j).length := List.length_filter_le _ _
                have h2 : (l.take j).length ≤ j := List.length_take_le _ _
                omega
              have HK2 := Lib.hid hk2
              have HL := Lib.hid hl
              clear hk2 hz ho' hcode hg2 k2 hnc2 hl hat
              go_upto_region 25 with fail
              go_quiet (fail)
              go_wp2_with fail
              exact ⟨⟨j + 1, by simp, hlt, by rw [HK2.out]; simp, HL.out.trans ((Low.refl _ _).drewN _)⟩, by show q - ((j : Int) + 1).toNat < q - ((j : Int)).toNat; omega⟩
          · have hlt' : ¬ (j : Int) < (q : Int) := by omega
            obtain rfl : j = q := by omega
            have HF := Lib.hid (World.keptBut_trans HK1.out ((I7.out.lo.trans (hl.mono I7.out.lo.size)).frame (fun _ => False)))
            clear hl iz hz z10 z1
            go_wp2_with fail
            go_ret
            exact ⟨rfl, HF.out⟩
end Go.Proofs.YtnjdegjpmbdboaaGreat
