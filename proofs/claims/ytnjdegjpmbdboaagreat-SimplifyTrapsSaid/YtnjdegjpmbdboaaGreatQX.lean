/- load of a function of one block, without constants. -/
import Derived.Test.YtnjdegjpmbdboaaGreatQW
namespace Go.Proofs.YtnjdegjpmbdboaaGreat
open Go.RowKit
set_option linter.unusedVariables false
/-- What load has made: the graph without its entry, the row of blocks, the block. -/
structure LG (w wx : World) (t1 g cg gr al df nm ob cm om : Nat) (next : Int) (r bk : Nat) (blk : Array Value) : Prop where
  lo : Low w.heap.size w wx
  lb : w.heap.size ≤ bk ∧ w.heap.size ≤ df
  f1 : wx.heap[t1]? = some (.cells #[.slice (some ⟨g, 0, none⟩) 1 cg] 39 (0, 0))
  fg : wx.heap[gr]? = some (.cells #[.pointer none, .int .i64 next, .map (some al), .map (some df), .map (some nm), .map (some ob), .map (some cm), .map (some om)] 74 (0, 0))
  al_ : Empty wx al
  df_ : Empty wx df
  nm_ : Empty wx nm
  ob_ : Empty wx ob
  cm_ : Empty wx cm
  om_ : Empty wx om
  dne : df ≠ al ∧ df ≠ nm ∧ df ≠ ob ∧ df ≠ cm ∧ df ≠ om
  fr : wx.heap[r]? = some (.cells #[.pointer (some ⟨bk, 0, none⟩)] 72 (0, 0))
  fb : wx.heap[bk]? = some (.cells blk 78 (0, 0))
section
variable {w wx wy : World} {t1 g cg gr al df nm ob cm om : Nat} {next : Int} {r bk : Nat} {blk blk' : Array Value}
theorem LG.chs (h : LG w wx t1 g cg gr al df nm ob cm om next r bk blk) (hc : Chs [bk] wx wy) (hb : wy.heap[bk]? = some (.cells blk' 78 (0, 0))) : LG w wy t1 g cg gr al df nm ob cm om next r bk blk' := by
  have hno : ∀ {b : Nat} {cs : Array Value} {e : TypeId} {fr : Nat × Nat}, wx.heap[b]? = some (.cells cs e fr) → e ≠ 78 → b ∉ [bk] := fun {b cs e fr} hq he hm => by
    rw [List.mem_singleton] at hm
    subst hm
    have h1 := h.fb
    rw [hq] at h1
    cases h1
    exact he rfl
  have hem : ∀ {b : Nat}, Empty wx b → b ∉ [bk] := fun {b} ⟨cl, hg⟩ hm => by
    rw [List.mem_singleton] at hm
    subst hm
    rw [h.fb] at hg; cases hg
  exact ⟨h.lo.trans (hc.low (by simp; exact h.lb.1) h.lo.size), h.lb, hc.obj h.f1 (hno h.f1 (by decide)), hc.obj h.fg (hno h.fg (by decide)), h.al_.chs hc (hem h.al_), h.df_.chs hc (hem h.df_), h.nm_.chs hc (hem h.nm_), h.ob_.chs hc (hem h.ob_), h.cm_.chs hc (hem h.cm_), h.om_.chs hc (hem h.om_), h.dne, hc.obj h.fr (hno h.fr (by decide)), hb⟩
theorem LG.low (h : LG w wx t1 g cg gr al df nm ob cm om next r bk blk) (hl : Low wx.heap.size wx wy) : LG w wy t1 g cg gr al df nm ob cm om next r bk blk := h.chs (Chs.of_low hl) (hl.some h.fb)
end
/-- The graph's maps and the graph. -/
theorem load_maps {w : World} {S df nm ob cm om gr : Nat} (next : Int) (hS : w.heap.size = S) (h1 : df = S + 1) (h2 : nm = S + 1 + 1) (h3 : ob = S + 1 + 1 + 1) (h4 : cm = S + 1 + 1 + 1 + 1) (h5 : om = S + 1 + 1 + 1 + 1 + 1) (h6 : gr = S + 1 + 1 + 1 + 1 + 1 + 1) : ∀ w1, w1 = ((((((w.alloc (.map #[] 0)).alloc (.map #[] 0)).alloc (.map #[] 0)).alloc (.map #[] 0)).alloc (.map #[] 0)).alloc (.map #[] 0)).alloc (.cells #[.pointer none, .int .i64 next, .map (some S), .map (some df), .map (some nm), .map (some ob), .map (some cm), .map (some om)] 74) →
    Low S w w1 ∧ Empty w1 S ∧ Empty w1 df ∧ Empty w1 nm ∧ Empty w1 ob ∧ Empty w1 cm ∧ Empty w1 om ∧ w1.heap[gr]? = some (.cells #[.pointer none, .int .i64 next, .map (some S), .map (some df), .map (some nm), .map (some ob), .map (some cm), .map (some om)] 74 (0, 0)) := by
  rintro w1 rfl
  obtain ⟨a1, s1, u1⟩ := alloc_at (.map #[] 0) hS
  obtain ⟨a2, s2, u2⟩ := alloc_at (.map #[] 0) s1
  obtain ⟨a3, s3, u3⟩ := alloc_at (.map #[] 0) s2
  obtain ⟨a4, s4, u4⟩ := alloc_at (.map #[] 0) s3
  obtain ⟨a5, s5, u5⟩ := alloc_at (.map #[] 0) s4
  obtain ⟨a6, s6, u6⟩ := alloc_at (.map #[] 0) s5
  obtain ⟨a7, s7, u7⟩ := alloc_at (.cells #[.pointer none, .int .i64 next, .map (some S), .map (some df), .map (some nm), .map (some ob), .map (some cm), .map (some om)] 74) s6
  subst h1 h2 h3 h4 h5 h6
  exact ⟨((((((((Low.refl S w).alloc (by omega) _).alloc (by omega) _).alloc (by omega) _).alloc (by omega) _).alloc (by omega) _).alloc (by omega) _).alloc (by omega) _), ⟨0, u7 _ _ (u6 _ _ (u5 _ _ (u4 _ _ (u3 _ _ (u2 _ _ a1)))))⟩, ⟨0, u7 _ _ (u6 _ _ (u5 _ _ (u4 _ _ (u3 _ _ a2))))⟩, ⟨0, u7 _ _ (u6 _ _ (u5 _ _ (u4 _ _ a3)))⟩, ⟨0, u7 _ _ (u6 _ _ (u5 _ _ a4))⟩, ⟨0, u7 _ _ (u6 _ _ a5)⟩, ⟨0, u7 _ _ a6⟩, a7⟩
set_option maxRecDepth 100000 in
set_option maxHeartbeats 8000000 in
theorem load_any (w : World) (g cg : Nat) (Pp : Option Addr) (pc : Nat) (A : Option Addr) (n c : Nat) (T : Option Addr) (tc : Nat) (l : List Opn) (h : FnAt w g Pp pc A n c T tc l) :
    Calls Tryz.prog 12 #[.agg #[.slice (some ⟨g, 0, none⟩) 1 cg]] w (fun e w' => Low w.heap.size w w' ∧ ∃ gr bk al df nm ob cm om next A' c', e = .returned (.pointer (some ⟨gr, 0, none⟩)) ∧ w.heap.size ≤ bk ∧ w.heap.size ≤ df ∧ ParAt w' Pp pc ∧ Gr w' gr bk al df nm ob cm om next Pp pc A' n c' none 0 l) := by
  have hm53 : ∀ u : World, (Instr.makeMap 53 none).run Tryz.prog u = .ok (.map (some u.heap.size)) (u.alloc (.map #[] 0)) := fun u => by kernel_rfl
  have hm67 : ∀ u : World, (Instr.makeMap 67 none).run Tryz.prog u = .ok (.map (some u.heap.size)) (u.alloc (.map #[] 0)) := fun u => by kernel_rfl
  have hm68 : ∀ u : World, (Instr.makeMap 68 none).run Tryz.prog u = .ok (.map (some u.heap.size)) (u.alloc (.map #[] 0)) := fun u => by kernel_rfl
  have hm69 : ∀ u : World, (Instr.makeMap 69 none).run Tryz.prog u = .ok (.map (some u.heap.size)) (u.alloc (.map #[] 0)) := fun u => by kernel_rfl
  have hm70 : ∀ u : World, (Instr.makeMap 70 none).run Tryz.prog u = .ok (.map (some u.heap.size)) (u.alloc (.map #[] 0)) := fun u => by kernel_rfl
  have hm71 : ∀ u : World, (Instr.makeMap 71 none).run Tryz.prog u = .ok (.map (some u.heap.size)) (u.alloc (.map #[] 0)) := fun u => by kernel_rfl
  have hms : ∀ u : World, (Instr.makeSlice 75 (.int .i64 1) (.int .i64 1)).run Tryz.prog u = .ok (.slice (some ⟨u.heap.size, 0, none⟩) 1 1) (u.alloc (.cells #[.pointer none] 72)) := fun u => by kernel_rfl
  have l1 : Low w.heap.size w (w.alloc (.cells #[.slice (some ⟨g, 0, none⟩) 1 cg] 39)) := (Low.refl _ _).alloc (Nat.le_refl _) _
  have a1 := heap_new w (.cells #[.slice (some ⟨g, 0, none⟩) 1 cg] 39)
  have hn12 : n ≤ 12 := h.small
  have H := Lib.hid h
  clear h
  go_enter Tryz.func12, Tryz.ntmps12
  go_upto_region 1 with fail
  obtain ⟨t1, ht1⟩ : ∃ t, t = w.heap.size := ⟨_, rfl⟩
  rw [← ht1] at a1 ⊢
  clear ht1
  generalize w.alloc (.cells #[.slice (some ⟨g, 0, none⟩) 1 cg] 39) = w1 at a1 l1 ⊢
  have y1 : w1.cell? ⟨t1, 0, none⟩ = some (.slice (some ⟨g, 0, none⟩) 1 cg) := cell_of a1
  have hcn := count_any w1 g cg Pp pc A n c T tc l (H.out.low l1)
  have L1 := Lib.hid l1; have A1 := Lib.hid a1
  clear a1 l1
  go_upto_region 2 with (first
    | (go_at_call 29; with_reducible refine hcn.mono ?_; rintro e w2 ⟨l2, next, rfl⟩; obtain ⟨S, hS⟩ : ∃ S, w2.heap.size = S := ⟨_, rfl⟩; have L2 := Lib.hid (L1.out.trans (l2.mono L1.out.size)); have A2 := Lib.hid (l2.some A1.out); clear l2))
  obtain ⟨df, hdf⟩ : ∃ t, t = S + 1 := ⟨_, rfl⟩
  obtain ⟨nm, hnm⟩ : ∃ t, t = S + 1 + 1 := ⟨_, rfl⟩
  obtain ⟨ob, hob⟩ : ∃ t, t = S + 1 + 1 + 1 := ⟨_, rfl⟩
  obtain ⟨cm, hcm⟩ : ∃ t, t = S + 1 + 1 + 1 + 1 := ⟨_, rfl⟩
  obtain ⟨om, hom⟩ : ∃ t, t = S + 1 + 1 + 1 + 1 + 1 := ⟨_, rfl⟩
  obtain ⟨gr, hgr⟩ : ∃ t, t = S + 1 + 1 + 1 + 1 + 1 + 1 := ⟨_, rfl⟩
  have h3 := load_maps next hS hdf hnm hob hcm hom hgr _ rfl
  rw [← hgr, ← hom, ← hcm, ← hob, ← hnm, ← hdf]
  have hSw : w.heap.size ≤ S := by have := L2.out.size; omega
  have hne : df ≠ S ∧ df ≠ nm ∧ df ≠ ob ∧ df ≠ cm ∧ df ≠ om := by omega
  have hdfw : w.heap.size ≤ df := by omega
  have ht1S : t1 < S := by rw [← hS]; exact heap_lt A2.out
  have HGR : Hid (gr < w.heap.size → False) := Lib.hid (by intro h; omega)
  clear hgr hom hcm hob hnm hdf
  generalize ((((((w2.alloc (.map #[] 0)).alloc (.map #[] 0)).alloc (.map #[] 0)).alloc (.map #[] 0)).alloc (.map #[] 0)).alloc (.map #[] 0)).alloc (.cells #[.pointer none, .int .i64 next, .map (some S), .map (some df), .map (some nm), .map (some ob), .map (some cm), .map (some om)] 74) = w3 at h3 ⊢
  obtain ⟨l3, e0, e1, e2, e3, e4, e5, fg⟩ := h3
  have l23 := L2.out.trans (l3.mono hSw)
  have f3 := l3.obj ht1S A2.out
  clear l3 hS y1 hcn L1 A1 L2 A2 hm53 hm67 hm68 hm69 hm70 hm71 hSw ht1S
  have y3 : w3.cell? ⟨t1, 0, none⟩ = some (.slice (some ⟨g, 0, none⟩) 1 cg) := cell_of f3
  obtain ⟨r, hr⟩ : ∃ t, t = w3.heap.size := ⟨_, rfl⟩
  have hr1 : r + 1 = (w3.alloc (.cells #[.pointer none] 72)).heap.size := by rw [hr]; simp
  have rr := heap_new w3 (.cells #[.pointer none] 72)
  have l4 : Low w3.heap.size w3 (w3.alloc (.cells #[.pointer none] 72)) := (Low.refl _ _).alloc (Nat.le_refl _) _
  have l24 := l23.trans (l4.mono l23.size)
  have g0 := e0.low l4; have g1 := e1.low l4; have g2 := e2.low l4; have g3 := e3.low l4; have g4 := e4.low l4; have g5 := e5.low l4; have fg4 := l4.some fg; have f4 := l4.some f3
  have hr23 := l23.size
  go_upto_region 4 with fail
  rw [← hr] at rr hr23 ⊢
  clear hr l4 l23 e0 e1 e2 e3 e4 e5 fg f3 y3 hms
  generalize w3.alloc (.cells #[.pointer none] 72) = w4 at rr l24 g0 g1 g2 g3 g4 g5 fg4 f4 hr1 ⊢
  have G0 := Lib.hid g0; have G1 := Lib.hid g1; have G2 := Lib.hid g2; have G3 := Lib.hid g3; have G4 := Lib.hid g4; have G5 := Lib.hid g5; have FG := Lib.hid fg4; have F4 := Lib.hid f4; have L24 := Lib.hid l24; have RR := Lib.hid rr; have HNE := Lib.hid hne; have HDF := Lib.hid hdfw; have HR1 := Lib.hid hr1; have HR23 := Lib.hid hr23
  clear g0 g1 g2 g3 g4 g5 fg4 f4 l24 rr hne hdfw hr1 hr23
  go_loopw [29] (fun i wr => (i = .int .i64 0 ∧ wr = w4) ∨ (i = .int .i64 1 ∧ ∃ bk, LG w wr t1 g cg gr S df nm ob cm om next r bk #[.slice none 0 0, .slice none 0 0, .int .i64 0, .int .i64 0, .slice none 0 0])) (fun i _ => 1 - (intOf i).toNat)
  case atStart => exact .inl ⟨rfl, rfl⟩
  case round =>
    rcases hrel with ⟨rfl, rfl⟩ | ⟨rfl, bk, hG⟩
    · obtain ⟨w4, rfl⟩ : ∃ u, u = wr := ⟨_, rfl⟩
      have l5 : Low w4.heap.size w4 (w4.alloc (.cells #[.slice none 0 0, .slice none 0 0, .int .i64 0, .int .i64 0, .slice none 0 0] 78)) := (Low.refl _ _).alloc (Nat.le_refl _) _
      have a5 := heap_new w4 (.cells #[.slice none 0 0, .slice none 0 0, .int .i64 0, .int .i64 0, .slice none 0 0] 78)
      have rr5 := l5.some RR.out
      have y5 : (w4.alloc (.cells #[.slice none 0 0, .slice none 0 0, .int .i64 0, .int .i64 0, .slice none 0 0] 78)).cell? ⟨r, 0, none⟩ = some (.pointer none) := cell_of rr5
      have f5 : (w4.alloc (.cells #[.slice none 0 0, .slice none 0 0, .int .i64 0, .int .i64 0, .slice none 0 0] 78)).frozen? ⟨r, 0, none⟩ = false := free_of rr5
      have hrw : r < w4.heap.size := heap_lt RR.out
      have HF : Hid (LG w ((w4.setCell ⟨r, 0, none⟩ (.pointer (some ⟨w4.heap.size, 0, none⟩))).alloc (.cells #[.slice none 0 0, .slice none 0 0, .int .i64 0, .int .i64 0, .slice none 0 0] 78)) t1 g cg gr S df nm ob cm om next r w4.heap.size #[.slice none 0 0, .slice none 0 0, .int .i64 0, .int .i64 0, .slice none 0 0]) := Lib.hid (by
        have cZ : Chs [r] w4 (w4.setCell ⟨r, 0, none⟩ (.pointer (some ⟨w4.heap.size, 0, none⟩))) := Chs.setCell _ (List.mem_singleton.2 rfl) _
        have hno : ∀ {b : Nat} {cs : Array Value} {e : TypeId} {fr : Nat × Nat}, w4.heap[b]? = some (.cells cs e fr) → e ≠ 72 → b ∉ [r] := fun {b cs e fr} hq he hm => by
          rw [List.mem_singleton] at hm
          subst hm
          have h1 := RR.out
          rw [hq] at h1
          cases h1
          exact he rfl
        have hem : ∀ {b : Nat}, Empty w4 b → b ∉ [r] := fun {b} ⟨cl, hg⟩ hm => by
          rw [List.mem_singleton] at hm
          subst hm
          have h1 := RR.out
          rw [hg] at h1; cases h1
        have rz := set_blk (i := 0) (v := .pointer (some ⟨w4.heap.size, 0, none⟩)) RR.out
        have hsz : (w4.setCell ⟨r, 0, none⟩ (.pointer (some ⟨w4.heap.size, 0, none⟩))).heap.size = w4.heap.size := set_size _ _ _
        have lz : Low w.heap.size w (w4.setCell ⟨r, 0, none⟩ (.pointer (some ⟨w4.heap.size, 0, none⟩))) := L24.out.setCell HR23.out _
        have fz := cZ.obj F4.out (hno F4.out (by decide))
        have fgz := cZ.obj FG.out (hno FG.out (by decide))
        have z0 := G0.out.chs cZ (hem G0.out); have z1 := G1.out.chs cZ (hem G1.out); have z2 := G2.out.chs cZ (hem G2.out); have z3 := G3.out.chs cZ (hem G3.out); have z4 := G4.out.chs cZ (hem G4.out); have z5 := G5.out.chs cZ (hem G5.out)
        generalize w4.setCell ⟨r, 0, none⟩ (.pointer (some ⟨w4.heap.size, 0, none⟩)) = wz at rz hsz lz fz fgz z0 z1 z2 z3 z4 z5 ⊢
        have lq : Low wz.heap.size wz (wz.alloc (.cells #[.slice none 0 0, .slice none 0 0, .int .i64 0, .int .i64 0, .slice none 0 0] 78)) := (Low.refl _ _).alloc (Nat.le_refl _) _
        have aq := heap_new wz (.cells #[.slice none 0 0, .slice none 0 0, .int .i64 0, .int .i64 0, .slice none 0 0] 78)
        rw [hsz] at aq
        exact ⟨lz.trans (lq.mono lz.size), ⟨L24.out.size, HDF.out⟩, lq.some fz, lq.some fgz, z0.low lq, z1.low lq, z2.low lq, z3.low lq, z4.low lq, z5.low lq, HNE.out, lq.some rz, aq⟩)
      clear l5 a5 rr5
      go_wp2_with fail
      exact ⟨.inr ⟨rfl, _, HF.out⟩, by decide⟩
    · obtain ⟨w5, rfl⟩ : ∃ u, u = wr := ⟨_, rfl⟩
      clear G0 G1 G2 G3 G4 G5 FG F4 L24 RR HNE HDF HR1 HR23
      have y1 : w5.cell? ⟨t1, 0, none⟩ = some (.slice (some ⟨g, 0, none⟩) 1 cg) := cell_of hG.f1
      have HG := Lib.hid hG
      clear hG
      go_wp2_with fail
      go_loopw [41] (fun i wr => (i = .int .i64 0 ∧ wr = w5) ∨ (i = .int .i64 1 ∧ ∃ A' c', LG w wr t1 g cg gr S df nm ob cm om next r bk #[.slice Pp 1 pc, .slice A' n c', .int .i64 4, .int .i64 (-1), .slice none 0 0] ∧ OpsAt wr A' n c' l)) (fun i _ => 1 - (intOf i).toNat)
      case atStart => exact .inl ⟨rfl, rfl⟩
      case round =>
        rcases hrel with ⟨rfl, rfl⟩ | ⟨rfl, A', c', hG, hO⟩
        · obtain ⟨w5, rfl⟩ : ∃ u, u = wr := ⟨_, rfl⟩
          obtain ⟨cs0, r0, r1, r2, r3, r4, r5⟩ := (H.out.low HG.out.lo).row
          have p0 : w5.cell? ⟨g, 0, none⟩ = some (.slice Pp 1 pc) := (cell_of r0).trans r1
          have p1 : w5.cell? ⟨g, 1, none⟩ = some (.slice A n c) := (cell_of r0).trans r2
          have p2 : w5.cell? ⟨g, 2, none⟩ = some (.int .i64 4) := (cell_of r0).trans r3
          have p3 : w5.cell? ⟨g, 3, none⟩ = some (.int .i64 (-1)) := (cell_of r0).trans r4
          have p4 : w5.cell? ⟨g, 4, none⟩ = some (.slice T 0 tc) := (cell_of r0).trans r5
          have l6 : Low w5.heap.size w5 (w5.alloc (.cells #[.slice Pp 1 pc, .slice A n c, .int .i64 4, .int .i64 (-1), .slice T 0 tc] 29)) := (Low.refl _ _).alloc (Nat.le_refl _) _
          have a6 := heap_new w5 (.cells #[.slice Pp 1 pc, .slice A n c, .int .i64 4, .int .i64 (-1), .slice T 0 tc] 29)
          have G6 := HG.out.low l6
          have yr : (w5.alloc (.cells #[.slice Pp 1 pc, .slice A n c, .int .i64 4, .int .i64 (-1), .slice T 0 tc] 29)).cell? ⟨r, 0, none⟩ = some (.pointer (some ⟨bk, 0, none⟩)) := cell_of G6.fr
          have hbs := heap_lt HG.out.fb
          clear r0 r1 r2 r3 r4 r5 l6
          go_upto_region 12 with fail
          clear p0 p1 p2 p3 p4 yr
          obtain ⟨t7, ht7⟩ : ∃ t, t = w5.heap.size := ⟨_, rfl⟩
          have hbt : t7 ≠ bk := by omega
          rw [← ht7] at a6 ⊢
          clear ht7 hbs
          generalize w5.alloc (.cells #[.slice Pp 1 pc, .slice A n c, .int .i64 4, .int .i64 (-1), .slice T 0 tc] 29) = w6 at a6 G6 ⊢
          have hS6 : w6.cell? ⟨t7, 0, none⟩ = some (.slice Pp 1 pc) ∧ w6.cell? ⟨t7, 2, none⟩ = some (.int .i64 4) ∧ w6.cell? ⟨t7, 3, none⟩ = some (.int .i64 (-1)) := ⟨cell_of a6, cell_of a6, cell_of a6⟩
          have A6 := Lib.hid a6; have GG := Lib.hid G6
          have b0 : w6.cell? ⟨bk, 0, none⟩ = some (.slice none 0 0) := cell_of G6.fb
          have b2 : w6.cell? ⟨bk, 2, none⟩ = some (.int .i64 0) := cell_of G6.fb
          have b3 : w6.cell? ⟨bk, 3, none⟩ = some (.int .i64 0) := cell_of G6.fb
          have f0 : w6.frozen? ⟨bk, 0, none⟩ = false := free_of G6.fb
          have f2 : w6.frozen? ⟨bk, 2, none⟩ = false := free_of G6.fb
          have f3 : w6.frozen? ⟨bk, 3, none⟩ = false := free_of G6.fb
          have hSv : ∀ k1 v1, (fun w' : World => w'.cell? ⟨t7, 0, none⟩ = some (.slice Pp 1 pc) ∧ w'.cell? ⟨t7, 2, none⟩ = some (.int .i64 4) ∧ w'.cell? ⟨t7, 3, none⟩ = some (.int .i64 (-1))) (w6.setCell ⟨bk, k1, none⟩ v1) := fun k1 v1 => ⟨(World.cell?_of_block (a := ⟨t7, 0, none⟩) (set_other hbt)).trans hS6.1, (World.cell?_of_block (a := ⟨t7, 2, none⟩) (set_other hbt)).trans hS6.2.1, (World.cell?_of_block (a := ⟨t7, 3, none⟩) (set_other hbt)).trans hS6.2.2⟩
          have hSv2 : ∀ k1 v1 k2 v2, (fun w' : World => w'.cell? ⟨t7, 0, none⟩ = some (.slice Pp 1 pc) ∧ w'.cell? ⟨t7, 2, none⟩ = some (.int .i64 4) ∧ w'.cell? ⟨t7, 3, none⟩ = some (.int .i64 (-1))) ((w6.setCell ⟨bk, k1, none⟩ v1).setCell ⟨bk, k2, none⟩ v2) := fun k1 v1 k2 v2 => ⟨(World.cell?_of_block (a := ⟨t7, 0, none⟩) (set_other hbt)).trans (hSv k1 v1).1, (World.cell?_of_block (a := ⟨t7, 2, none⟩) (set_other hbt)).trans (hSv k1 v1).2.1, (World.cell?_of_block (a := ⟨t7, 3, none⟩) (set_other hbt)).trans (hSv k1 v1).2.2⟩
          have hSv3 : ∀ k1 v1 k2 v2 k3 v3, (fun w' : World => w'.cell? ⟨t7, 0, none⟩ = some (.slice Pp 1 pc) ∧ w'.cell? ⟨t7, 2, none⟩ = some (.int .i64 4) ∧ w'.cell? ⟨t7, 3, none⟩ = some (.int .i64 (-1))) (((w6.setCell ⟨bk, k1, none⟩ v1).setCell ⟨bk, k2, none⟩ v2).setCell ⟨bk, k3, none⟩ v3) := fun k1 v1 k2 v2 k3 v3 => ⟨(World.cell?_of_block (a := ⟨t7, 0, none⟩) (set_other hbt)).trans (hSv2 k1 v1 k2 v2).1, (World.cell?_of_block (a := ⟨t7, 2, none⟩) (set_other hbt)).trans (hSv2 k1 v1 k2 v2).2.1, (World.cell?_of_block (a := ⟨t7, 3, none⟩) (set_other hbt)).trans (hSv2 k1 v1 k2 v2).2.2⟩
          clear a6 G6
          refine wp_region_noPanic ?_
          refine wp_region_held_drew (S := fun w' => w'.cell? ⟨t7, 0, none⟩ = some (.slice Pp 1 pc) ∧ w'.cell? ⟨t7, 2, none⟩ = some (.int .i64 4) ∧ w'.cell? ⟨t7, 3, none⟩ = some (.int .i64 (-1))) (by kernel_rfl) (by exact hS6) (fun hHeld => ?_)
          refine take_at (i := 0) (v := ?_) rfl (by kernel_rfl) (by kernel_rfl) (by kernel_rfl) (fun _ _ _ h => h) (by rfl) ?_ (by assumption) ?_
          rotate_left
          · intro w' hSw; obtain ⟨s0, s2, s3⟩ := hSw; go_simp; (try with_reducible rfl)
          (try simp only [Act.put, List.setIfInBounds_toArray, List.set_cons_zero, List.set_cons_succ])
          refine take_at (i := 1) (v := ?_) rfl (by kernel_rfl) (by kernel_rfl) (by kernel_rfl) (fun _ _ _ h => h) (by rfl) ?_ (by assumption) ?_
          rotate_left
          · intro w' hSw; obtain ⟨s0, s2, s3⟩ := hSw; go_simp; (try with_reducible rfl)
          (try simp only [Act.put, List.setIfInBounds_toArray, List.set_cons_zero, List.set_cons_succ])
          refine take_at (i := 2) (v := ?_) rfl (by kernel_rfl) (by kernel_rfl) (by kernel_rfl) (fun _ _ _ h => h) (by rfl) ?_ (by assumption) ?_
          rotate_left
          · intro w' hSw; obtain ⟨s0, s2, s3⟩ := hSw; go_simp; (try with_reducible rfl)
          (try simp only [Act.put, List.setIfInBounds_toArray, List.set_cons_zero, List.set_cons_succ])
          refine take_at (i := 3) (v := ?_) rfl (by kernel_rfl) (by kernel_rfl) (by kernel_rfl) (fun _ _ _ h => h) (by rfl) ?_ (by assumption) ?_
          rotate_left
          · intro w' hSw; obtain ⟨s0, s2, s3⟩ := hSw; go_simp; (try with_reducible rfl)
          (try simp only [Act.put, List.setIfInBounds_toArray, List.set_cons_zero, List.set_cons_succ])
          refine take_at (i := 4) (v := ?_) rfl (by kernel_rfl) (by kernel_rfl) (by kernel_rfl) (fun _ _ _ h => h) (by rfl) ?_ (by assumption) ?_
          rotate_left
          · intro w' hSw; obtain ⟨s0, s2, s3⟩ := hSw; go_simp; (try with_reducible rfl)
          (try simp only [Act.put, List.setIfInBounds_toArray, List.set_cons_zero, List.set_cons_succ])
          refine take_at (i := 5) (v := ?_) rfl (by kernel_rfl) (by kernel_rfl) (by kernel_rfl) (fun _ _ _ h => h) (by rfl) ?_ (by assumption) ?_
          rotate_left
          · intro w' hSw; obtain ⟨s0, s2, s3⟩ := hSw; go_simp; (try with_reducible rfl)
          (try simp only [Act.put, List.setIfInBounds_toArray, List.set_cons_zero, List.set_cons_succ])
          refine take_at (i := 6) (v := ?_) rfl (by kernel_rfl) (by kernel_rfl) (by kernel_rfl) (fun _ _ _ h => h) (by rfl) ?_ (by assumption) ?_
          rotate_left
          · intro w' hSw; obtain ⟨s0, s2, s3⟩ := hSw; go_simp; (try with_reducible rfl)
          (try simp only [Act.put, List.setIfInBounds_toArray, List.set_cons_zero, List.set_cons_succ])
          refine take_at (i := 7) (v := ?_) rfl (by kernel_rfl) (by kernel_rfl) (by kernel_rfl) (fun _ _ _ h => h) (by rfl) ?_ (by assumption) ?_
          rotate_left
          · intro w' hSw; obtain ⟨s0, s2, s3⟩ := hSw; go_simp; (try with_reducible rfl)
          (try simp only [Act.put, List.setIfInBounds_toArray, List.set_cons_zero, List.set_cons_succ])
          refine take_at (i := 8) (v := ?_) rfl (by kernel_rfl) (by kernel_rfl) (by kernel_rfl) (fun _ _ _ h => h) (by rfl) ?_ (by assumption) ?_
          rotate_left
          · intro w' hSw; obtain ⟨s0, s2, s3⟩ := hSw; go_simp; (try with_reducible rfl)
          (try simp only [Act.put, List.setIfInBounds_toArray, List.set_cons_zero, List.set_cons_succ])
          refine take_at (i := 9) (v := ?_) rfl (by kernel_rfl) (by kernel_rfl) (by kernel_rfl) (fun _ _ _ h => h) (by rfl) ?_ (by assumption) ?_
          rotate_left
          · intro w' hSw; obtain ⟨s0, s2, s3⟩ := hSw; go_simp; (try with_reducible rfl)
          (try simp only [Act.put, List.setIfInBounds_toArray, List.set_cons_zero, List.set_cons_succ])
          refine take_at (i := 10) (v := ?_) rfl (by kernel_rfl) (by kernel_rfl) (by kernel_rfl) (fun _ _ _ h => h) (by rfl) ?_ (by assumption) ?_
          rotate_left
          · intro w' hSw; obtain ⟨s0, s2, s3⟩ := hSw; go_simp; (try with_reducible rfl)
          (try simp only [Act.put, List.setIfInBounds_toArray, List.set_cons_zero, List.set_cons_succ])
          refine take_at (i := 11) (v := ?_) rfl (by kernel_rfl) (by kernel_rfl) (by kernel_rfl) (fun _ _ _ h => h) (by rfl) ?_ (by assumption) ?_
          rotate_left
          · intro w' hSw; obtain ⟨s0, s2, s3⟩ := hSw; go_simp; (try with_reducible rfl)
          (try simp only [Act.put, List.setIfInBounds_toArray, List.set_cons_zero, List.set_cons_succ])
          refine take_at (i := 12) (v := ?_) rfl (by kernel_rfl) (by kernel_rfl) (by kernel_rfl) (fun _ _ _ h => h) (by rfl) ?_ (by assumption) ?_
          rotate_left
          · intro w' hSw; obtain ⟨s0, s2, s3⟩ := hSw; go_simp; (try with_reducible rfl)
          (try simp only [Act.put, List.setIfInBounds_toArray, List.set_cons_zero, List.set_cons_succ])
          refine wpAnyH_ready (rs := [13]) (by kernel_rfl) (by simp) ?_
          refine next_at (i := 13) rfl (fun KK hKK => ?_) AllReadyH.nil
          go_simp
          refine hKK.out _ _ (by exact (hSv _ _)) (fun hHeld => ?_)
          clear hKK KK
          (try simp only [Act.put, List.setIfInBounds_toArray, List.set_cons_zero, List.set_cons_succ])
          refine take_at (i := 14) (v := ?_) rfl (by kernel_rfl) (by kernel_rfl) (by kernel_rfl) (fun _ _ _ h => h) (by rfl) ?_ (by assumption) ?_
          rotate_left
          · intro w' hSw; obtain ⟨s0, s2, s3⟩ := hSw; go_simp; (try with_reducible rfl)
          (try simp only [Act.put, List.setIfInBounds_toArray, List.set_cons_zero, List.set_cons_succ])
          refine take_at (i := 15) (v := ?_) rfl (by kernel_rfl) (by kernel_rfl) (by kernel_rfl) (fun _ _ _ h => h) (by rfl) ?_ (by assumption) ?_
          rotate_left
          · intro w' hSw; obtain ⟨s0, s2, s3⟩ := hSw; go_simp; (try with_reducible rfl)
          (try simp only [Act.put, List.setIfInBounds_toArray, List.set_cons_zero, List.set_cons_succ])
          refine wpAnyH_ready (rs := [16]) (by kernel_rfl) (by simp) ?_
          refine next_at (i := 16) rfl (fun KK hKK => ?_) AllReadyH.nil
          go_simp
          refine hKK.out _ _ (by exact (hSv2 _ _ _ _)) (fun hHeld => ?_)
          clear hKK KK
          (try simp only [Act.put, List.setIfInBounds_toArray, List.set_cons_zero, List.set_cons_succ])
          refine take_at (i := 17) (v := ?_) rfl (by kernel_rfl) (by kernel_rfl) (by kernel_rfl) (fun _ _ _ h => h) (by rfl) ?_ (by assumption) ?_
          rotate_left
          · intro w' hSw; obtain ⟨s0, s2, s3⟩ := hSw; go_simp; (try with_reducible rfl)
          (try simp only [Act.put, List.setIfInBounds_toArray, List.set_cons_zero, List.set_cons_succ])
          refine take_at (i := 18) (v := ?_) rfl (by kernel_rfl) (by kernel_rfl) (by kernel_rfl) (fun _ _ _ h => h) (by rfl) ?_ (by assumption) ?_
          rotate_left
          · intro w' hSw; obtain ⟨s0, s2, s3⟩ := hSw; go_simp; (try with_reducible rfl)
          (try simp only [Act.put, List.setIfInBounds_toArray, List.set_cons_zero, List.set_cons_succ])
          refine wpAnyH_ready (rs := [19]) (by kernel_rfl) (by simp) ?_
          refine next_at (i := 19) rfl (fun KK hKK => ?_) AllReadyH.nil
          go_simp
          refine hKK.out _ _ (by exact (hSv3 _ _ _ _ _ _)) (fun hHeld => ?_)
          clear hKK KK
          (try simp only [Act.put, List.setIfInBounds_toArray, List.set_cons_zero, List.set_cons_succ])
          refine wpAnyH_done (by kernel_rfl) ?_ _
          refine NoPanic.normal ?_
          obtain ⟨w7, hw7⟩ : ∃ w7, w7 = (((w6.setCell ⟨bk, 0, none⟩ (.slice Pp 1 pc)).setCell ⟨bk, 2, none⟩ (.int .i64 4)).setCell ⟨bk, 3, none⟩ (.int .i64 (-1))).drew := ⟨_, rfl⟩
          have c7 : Chs [bk] w6 w7 := by
            rw [hw7]
            exact (((Chs.setCell w6 (List.mem_singleton.2 rfl) _).trans (Chs.setCell _ (List.mem_singleton.2 rfl) _)).trans (Chs.setCell _ (List.mem_singleton.2 rfl) _)).drew
          have hb7 : w7.heap[bk]? = some (.cells #[.slice Pp 1 pc, .slice none 0 0, .int .i64 4, .int .i64 (-1), .slice none 0 0] 78 (0, 0)) := by
            rw [hw7]
            exact set_blk (set_blk (set_blk GG.out.fb))
          have G7 := GG.out.chs c7 hb7
          have a7 := c7.obj A6.out (by rw [List.mem_singleton]; exact hbt)
          rw [← hw7]
          clear hw7 hSv hSv2 hSv3 hS6 b0 b2 b3 f0 f2 f3 c7 hHeld A6 GG HG
          have y1' : w7.cell? ⟨t7, 1, none⟩ = some (.slice A n c) := cell_of a7
          have G7' := Lib.hid G7; have A7 := Lib.hid a7; have HB7 := Lib.hid hb7
          clear G7 a7 hb7
          go_wp2_with fail
          go_loopw [70] (fun i wx => ∃ q v, i = .int .i64 ((q : Nat) : Int) ∧ q ≤ n ∧ Chs [bk] w7 wx ∧ wx.heap[bk]? = some (.cells #[.slice Pp 1 pc, v, .int .i64 4, .int .i64 (-1), .slice none 0 0] 78 (0, 0)) ∧ Own wx w7.heap.size 33 6 v q (rowOf (l.take q))) (fun i _ => n - (intOf i).toNat)
          case atStart => exact ⟨0, _, rfl, by omega, Chs.refl _ _, HB7.out, Own.nil _ _ _ _⟩
          case round =>
            obtain ⟨wv, rfl⟩ : ∃ u, u = wr := ⟨_, rfl⟩
            obtain ⟨q, v, rfl, hq, hL, hR, hO⟩ := hrel
            have gv := G7'.out.chs hL hR
            have hv := H.out.low gv.lo
            have H7s := Lib.hid (heap_lt HB7.out)
            have HL := Lib.hid hL; have HR := Lib.hid hR; have HO := Lib.hid hO; have GV := Lib.hid gv
            clear hL hR hO gv y1'
            by_cases hlt : q < n
            · have hlt' : (q : Int) < (n : Int) := by omega
              have hq0 : (0 : Int) ≤ (q : Int) := by omega
              have hqn : (q : Int) ≤ 12 := by omega
              obtain ⟨o, ho⟩ : ∃ o, l[q]? = some o := ⟨_, List.getElem?_eq_getElem (by have := hv.ops.1; omega)⟩
              obtain ⟨ga, cs, rfl, hnc, hg, k0, k1, k2, k3, k4, k5⟩ := hv.ops.2 q o ho
              have c0 : wv.cell? ⟨ga, q * 6, none⟩ = some (.int .i64 o.code) := (cell_of hg).trans k0
              have c1 : wv.cell? ⟨ga, q * 6 + 1, none⟩ = some (.int .i64 o.res) := (cell_of hg).trans k1
              have c2 : wv.cell? ⟨ga, q * 6 + 2, none⟩ = some (.int .i64 0) := (cell_of hg).trans k2
              have c3 : wv.cell? ⟨ga, q * 6 + 3, none⟩ = some (.int .i64 0) := (cell_of hg).trans k3
              have c4 : wv.cell? ⟨ga, q * 6 + 4, none⟩ = some (.int .u16 o.n) := (cell_of hg).trans k4
              have c5 : wv.cell? ⟨ga, q * 6 + 5, none⟩ = some (.slice none 0 0) := (cell_of hg).trans k5
              have okc := (hv.ok o (List.mem_of_getElem? ho)).1
              have l9 : Low wv.heap.size wv (wv.alloc (.cells #[.int .i64 o.code, .int .i64 o.res, .int .i64 0, .int .i64 0, .int .u16 o.n, .slice none 0 0] 33)) := (Low.refl _ _).alloc (Nat.le_refl _) _
              have a9 := heap_new wv (.cells #[.int .i64 o.code, .int .i64 o.res, .int .i64 0, .int .i64 0, .int .u16 o.n, .slice none 0 0] 33)
              have HOO := Lib.hid ho
              have L9 := Lib.hid l9
              have hsw := HL.out.size
              clear hv hg k0 k1 k2 k3 k4 k5 ho l9
              go_upto_region 16 with fail
              clear c0 c1 c2 c3 c4 c5
              obtain ⟨t10, ht10⟩ : ∃ t, t = wv.heap.size := ⟨_, rfl⟩
              have HT10 := Lib.hid ht10
              rw [← ht10] at a9 ⊢
              clear ht10
              generalize wv.alloc (.cells #[.int .i64 o.code, .int .i64 o.res, .int .i64 0, .int .i64 0, .int .u16 o.n, .slice none 0 0] 33) = wa at a9 L9 ⊢
              have x0 : wa.cell? ⟨t10, 0, none⟩ = some (.int .i64 o.code) := cell_of a9
              have n1 : ¬ o.code = 1 := by rcases okcode_cases okc with h | h | h <;> omega
              have n2 : ¬ o.code = 2 := by rcases okcode_cases okc with h | h | h <;> omega
              have A9 := Lib.hid a9
              have HSW := Lib.hid hsw
              clear a9 okc hsw
              go_upto_region 17 with fail
              have hS17 : wa.cell? ⟨t10, 0, none⟩ = some (.int .i64 o.code) ∧ wa.cell? ⟨t10, 1, none⟩ = some (.int .i64 o.res) ∧ wa.cell? ⟨t10, 2, none⟩ = some (.int .i64 0) ∧ wa.cell? ⟨t10, 3, none⟩ = some (.int .i64 0) ∧ wa.cell? ⟨t10, 4, none⟩ = some (.int .u16 o.n) ∧ wa.cell? ⟨t10, 5, none⟩ = some (.slice none 0 0) := ⟨cell_of A9.out, cell_of A9.out, cell_of A9.out, cell_of A9.out, cell_of A9.out, cell_of A9.out⟩
              have lz : Low wa.heap.size wa (wa.drew.alloc (.cells #[.int .i64 o.code, .int .i64 o.res, .int .i64 0, .int .i64 0, .int .u16 o.n, .slice none 0 0] 33)) := ((Low.refl _ wa).drew).alloc (Nat.le_refl _) _
              have hbase : w7.heap.size ≤ wa.heap.size := by have := L9.out.size; have := HSW.out; omega
              have HRA := Lib.hid ((L9.out.mono HSW.out).obj H7s.out HR.out)
              have va : wa.drew.cell? ⟨bk, 1, none⟩ = some v := cell_of HRA.out
              have vz : (wa.alloc (.cells #[.int .i64 o.code, .int .i64 o.res, .int .i64 0, .int .i64 0, .int .u16 o.n, .slice none 0 0] 33)).drew.cell? ⟨bk, 1, none⟩ = some v := cell_of (lz.some HRA.out)
              have hSz : (wa.drew.alloc (.cells #[.int .i64 o.code, .int .i64 o.res, .int .i64 0, .int .i64 0, .int .u16 o.n, .slice none 0 0] 33)).cell? ⟨t10, 0, none⟩ = some (.int .i64 o.code) ∧ (wa.drew.alloc (.cells #[.int .i64 o.code, .int .i64 o.res, .int .i64 0, .int .i64 0, .int .u16 o.n, .slice none 0 0] 33)).cell? ⟨t10, 1, none⟩ = some (.int .i64 o.res) ∧ (wa.drew.alloc (.cells #[.int .i64 o.code, .int .i64 o.res, .int .i64 0, .int .i64 0, .int .u16 o.n, .slice none 0 0] 33)).cell? ⟨t10, 2, none⟩ = some (.int .i64 0) ∧ (wa.drew.alloc (.cells #[.int .i64 o.code, .int .i64 o.res, .int .i64 0, .int .i64 0, .int .u16 o.n, .slice none 0 0] 33)).cell? ⟨t10, 3, none⟩ = some (.int .i64 0) ∧ (wa.drew.alloc (.cells #[.int .i64 o.code, .int .i64 o.res, .int .i64 0, .int .i64 0, .int .u16 o.n, .slice none 0 0] 33)).cell? ⟨t10, 4, none⟩ = some (.int .u16 o.n) ∧ (wa.drew.alloc (.cells #[.int .i64 o.code, .int .i64 o.res, .int .i64 0, .int .i64 0, .int .u16 o.n, .slice none 0 0] 33)).cell? ⟨t10, 5, none⟩ = some (.slice none 0 0) := ⟨cell_of (lz.some A9.out), cell_of (lz.some A9.out), cell_of (lz.some A9.out), cell_of (lz.some A9.out), cell_of (lz.some A9.out), cell_of (lz.some A9.out)⟩
              have HOA := Lib.hid ((HO.out.low L9.out).low lz)
              have AT := Lib.hid (lz.some A9.out)
              have HB1 := Lib.hid hbase
              have HB2 : Hid (w7.heap.size ≤ (wa.drew.alloc (.cells #[.int .i64 o.code, .int .i64 o.res, .int .i64 0, .int .i64 0, .int .u16 o.n, .slice none 0 0] 33)).heap.size) := Lib.hid (Nat.le_trans hbase lz.size)
              have HTB : Hid (t10 ≠ bk) := Lib.hid (by have := H7s.out; have := HT10.out; have := HSW.out; omega)
              have HNO : Hid (some t10 ≠ v.ownBlock) := Lib.hid (by
                intro he
                rcases HO.out.form with ⟨h1, _⟩ | ⟨g', c', cs', h1, _, h3, _⟩
                · rw [h1] at he; cases he
                · rw [h1] at he
                  have he' : t10 = g' := by simpa [Value.ownBlock] using he
                  have := heap_lt h3
                  have := HT10.out
                  omega)
              clear lz hbase x0 n1 n2
              refine wp_region_noPanic ?_
              refine wp_region_held_drew (S := fun w' => w'.cell? ⟨t10, 0, none⟩ = some (.int .i64 o.code) ∧ w'.cell? ⟨t10, 1, none⟩ = some (.int .i64 o.res) ∧ w'.cell? ⟨t10, 2, none⟩ = some (.int .i64 0) ∧ w'.cell? ⟨t10, 3, none⟩ = some (.int .i64 0) ∧ w'.cell? ⟨t10, 4, none⟩ = some (.int .u16 o.n) ∧ w'.cell? ⟨t10, 5, none⟩ = some (.slice none 0 0)) (by kernel_rfl) (by exact hS17) (fun hHeld => ?_)
              refine take_at (i := 0) (v := ?_) rfl (by kernel_rfl) (by kernel_rfl) (by kernel_rfl) (fun _ _ _ h => h) (by rfl) ?_ (by assumption) ?_
              rotate_left
              · intro w' hSw; obtain ⟨s0, s1, s2, s3, s4, s5⟩ := hSw; go_simp; (try with_reducible rfl)
              (try simp only [Act.put, List.setIfInBounds_toArray, List.set_cons_zero, List.set_cons_succ])
              refine take_at (i := 1) (v := ?_) rfl (by kernel_rfl) (by kernel_rfl) (by kernel_rfl) (fun _ _ _ h => h) (by rfl) ?_ (by assumption) ?_
              rotate_left
              · intro w' hSw; obtain ⟨s0, s1, s2, s3, s4, s5⟩ := hSw; go_simp; (try with_reducible rfl)
              (try simp only [Act.put, List.setIfInBounds_toArray, List.set_cons_zero, List.set_cons_succ])
              refine take_at (i := 2) (v := ?_) rfl (by kernel_rfl) (by kernel_rfl) (by kernel_rfl) (fun _ _ _ h => h) (by rfl) ?_ (by assumption) ?_
              rotate_left
              · intro w' hSw; obtain ⟨s0, s1, s2, s3, s4, s5⟩ := hSw; go_simp; (try with_reducible rfl)
              (try simp only [Act.put, List.setIfInBounds_toArray, List.set_cons_zero, List.set_cons_succ])
              refine take_at (i := 3) (v := ?_) rfl (by kernel_rfl) (by kernel_rfl) (by kernel_rfl) (fun _ _ _ h => h) (by rfl) ?_ (by assumption) ?_
              rotate_left
              · intro w' hSw; obtain ⟨s0, s1, s2, s3, s4, s5⟩ := hSw; go_simp; (try with_reducible rfl)
              (try simp only [Act.put, List.setIfInBounds_toArray, List.set_cons_zero, List.set_cons_succ])
              refine take_at (i := 5) (v := ?_) rfl (by kernel_rfl) (by kernel_rfl) (by kernel_rfl) (fun _ _ _ h => h) (by rfl) ?_ (by assumption) ?_
              rotate_left
              · intro w' hSw; obtain ⟨s0, s1, s2, s3, s4, s5⟩ := hSw; go_simp; (try with_reducible rfl)
              (try simp only [Act.put, List.setIfInBounds_toArray, List.set_cons_zero, List.set_cons_succ])
              refine wpAnyH_ready (rs := [4, 6]) (by kernel_rfl) (by simp) ?_
              refine next_at (i := 4) rfl (fun KK hKK => ?_) (next_at (i := 6) rfl (fun KK hKK => ?_) AllReadyH.nil)
              · go_simp
                refine hKK.out _ _ (by exact hS17) (fun hHeld => ?_)
                clear hKK KK
                (try simp only [Act.put, List.setIfInBounds_toArray, List.set_cons_zero, List.set_cons_succ])
                refine wpAnyH_ready (rs := [6]) (by kernel_rfl) (by simp) ?_
                refine next_at (i := 6) rfl (fun KK hKK => ?_) AllReadyH.nil
                go_simp
                refine hKK.out _ _ (by exact hSz) (fun hHeld => ?_)
                clear hKK KK
                (try simp only [Act.put, List.setIfInBounds_toArray, List.set_cons_zero, List.set_cons_succ])
                refine wpAnyH_ready (rs := [7]) (by kernel_rfl) (by simp) ?_
                refine next_at (i := 7) rfl (fun KK hKK => ?_) AllReadyH.nil
                refine step_app1 (w := wa.drew.alloc (.cells #[.int .i64 o.code, .int .i64 o.res, .int .i64 0, .int .i64 0, .int .u16 o.n, .slice none 0 0] 33)) (P := Tryz.prog) (base := w7.heap.size) (n := q) (m := 1) (xs := rowOf (l.take q)) ap27 rfl (.tmp 80) (.tmp 82) rfl rfl HOA.out rfl (heap_new wa.drew _) rfl (by simp [Value.oneCell']) (by omega) HB2.out ?_
                intro v9 w9 hap
                obtain ⟨g9, cr, cs9, rfl, hSr, hr9, hcr, hown9⟩ := hap.row (k := q + 1) rfl (by omega)
                have hl9 : Low w7.heap.size wa w9 := (((Low.refl w7.heap.size wa).drew).alloc HB1.out _).trans (hap.low HOA.out (Nat.le_refl _) HB2.out)
                have ha9 : w9.heap[t10]? = some (.cells #[.int .i64 o.code, .int .i64 o.res, .int .i64 0, .int .i64 0, .int .u16 o.n, .slice none 0 0] 33 (0, 0)) := (hap.block t10 (heap_lt AT.out) HNO.out).trans AT.out
                have hb9 := hl9.obj H7s.out HRA.out
                have hS9 : w9.cell? ⟨t10, 0, none⟩ = some (.int .i64 o.code) ∧ w9.cell? ⟨t10, 1, none⟩ = some (.int .i64 o.res) ∧ w9.cell? ⟨t10, 2, none⟩ = some (.int .i64 0) ∧ w9.cell? ⟨t10, 3, none⟩ = some (.int .i64 0) ∧ w9.cell? ⟨t10, 4, none⟩ = some (.int .u16 o.n) ∧ w9.cell? ⟨t10, 5, none⟩ = some (.slice none 0 0) := ⟨cell_of ha9, cell_of ha9, cell_of ha9, cell_of ha9, cell_of ha9, cell_of ha9⟩
                have x9 : w9.cell? ⟨bk, 1, none⟩ = some v := cell_of hb9
                have f9 : w9.frozen? ⟨bk, 1, none⟩ = false := free_of hb9
                have HAP := Lib.hid hown9; have HL9 := Lib.hid hl9; have HB9 := Lib.hid hb9
                have hSF : (w9.setCell ⟨bk, 1, none⟩ (.slice (some ⟨g9, 0, none⟩) (q + 1) cr)).cell? ⟨t10, 0, none⟩ = some (.int .i64 o.code) ∧ (w9.setCell ⟨bk, 1, none⟩ (.slice (some ⟨g9, 0, none⟩) (q + 1) cr)).cell? ⟨t10, 1, none⟩ = some (.int .i64 o.res) ∧ (w9.setCell ⟨bk, 1, none⟩ (.slice (some ⟨g9, 0, none⟩) (q + 1) cr)).cell? ⟨t10, 2, none⟩ = some (.int .i64 0) ∧ (w9.setCell ⟨bk, 1, none⟩ (.slice (some ⟨g9, 0, none⟩) (q + 1) cr)).cell? ⟨t10, 3, none⟩ = some (.int .i64 0) ∧ (w9.setCell ⟨bk, 1, none⟩ (.slice (some ⟨g9, 0, none⟩) (q + 1) cr)).cell? ⟨t10, 4, none⟩ = some (.int .u16 o.n) ∧ (w9.setCell ⟨bk, 1, none⟩ (.slice (some ⟨g9, 0, none⟩) (q + 1) cr)).cell? ⟨t10, 5, none⟩ = some (.slice none 0 0) := ⟨cell_of ((set_other HTB.out).trans ha9), cell_of ((set_other HTB.out).trans ha9), cell_of ((set_other HTB.out).trans ha9), cell_of ((set_other HTB.out).trans ha9), cell_of ((set_other HTB.out).trans ha9), cell_of ((set_other HTB.out).trans ha9)⟩
                clear hap hr9 hown9 hl9 ha9 hb9
                refine hKK.out _ _ (by exact hS9) (fun hHeld => ?_)
                clear hKK KK
                (try simp only [Act.put, List.setIfInBounds_toArray, List.set_cons_zero, List.set_cons_succ])
                refine take_at (i := 8) (v := ?_) rfl (by kernel_rfl) (by kernel_rfl) (by kernel_rfl) (fun _ _ _ h => h) (by rfl) ?_ (by assumption) ?_
                rotate_left
                · intro w' hSw; obtain ⟨s0, s1, s2, s3, s4, s5⟩ := hSw; go_simp; (try with_reducible rfl)
                (try simp only [Act.put, List.setIfInBounds_toArray, List.set_cons_zero, List.set_cons_succ])
                refine take_at (i := 9) (v := ?_) rfl (by kernel_rfl) (by kernel_rfl) (by kernel_rfl) (fun _ _ _ h => h) (by rfl) ?_ (by assumption) ?_
                rotate_left
                · intro w' hSw; obtain ⟨s0, s1, s2, s3, s4, s5⟩ := hSw; go_simp; (try with_reducible rfl)
                (try simp only [Act.put, List.setIfInBounds_toArray, List.set_cons_zero, List.set_cons_succ])
                refine wpAnyH_ready (rs := [10]) (by kernel_rfl) (by simp) ?_
                refine next_at (i := 10) rfl (fun KK hKK => ?_) AllReadyH.nil
                go_simp
                refine hKK.out _ _ (by exact hSF) (fun hHeld => ?_)
                clear hKK KK
                (try simp only [Act.put, List.setIfInBounds_toArray, List.set_cons_zero, List.set_cons_succ])
                refine wpAnyH_done (by kernel_rfl) ?_ _
                refine NoPanic.normal ?_
                have hOF : Own (w9.setCell ⟨bk, 1, none⟩ (.slice (some ⟨g9, 0, none⟩) (q + 1) cr)) w7.heap.size 33 6 (.slice (some ⟨g9, 0, none⟩) (q + 1) cr) (q + 1) (rowOf (l.take (q + 1))) := by
                  have h1 := HAP.out
                  rw [take_snoc HOO.out, rowOf_snoc]
                  refine Own.kept h1 fun k hk => set_other ?_
                  rcases Own.form h1 with ⟨h2, _⟩ | ⟨k', c', cs', h2, hb', _, _⟩
                  · rw [h2] at hk; cases hk
                  · rw [h2] at hk; cases hk
                    have h18 := H7s.out
                    intro he
                    have he' : k' = bk := he
                    omega
                have hcF : Chs [bk] w7 (w9.setCell ⟨bk, 1, none⟩ (.slice (some ⟨g9, 0, none⟩) (q + 1) cr)) := ((HL.out.tail (L9.out.mono HSW.out)).tail HL9.out).trans (Chs.setCell _ (List.mem_singleton.2 rfl) _)
                have hRF := set_blk (i := 1) (v := .slice (some ⟨g9, 0, none⟩) (q + 1) cr) HB9.out
                have HOF := Lib.hid hOF; have HCF := Lib.hid hcF; have HRF := Lib.hid hRF
                clear hOF hcF hRF x9 f9 hS9 hSF
                (try go_wp2_with fail)
                exact ⟨⟨q + 1, _, rfl, hlt, HCF.out, HRF.out, HOF.out⟩, by show n - ((q : Int) + 1).toNat < n - ((q : Int)).toNat; omega⟩
              · go_simp
                refine hKK.out _ _ (by exact hSz) (fun hHeld => ?_)
                clear hKK KK
                (try simp only [Act.put, List.setIfInBounds_toArray, List.set_cons_zero, List.set_cons_succ])
                refine wpAnyH_ready (rs := [4]) (by kernel_rfl) (by simp) ?_
                refine next_at (i := 4) rfl (fun KK hKK => ?_) AllReadyH.nil
                go_simp
                refine hKK.out _ _ (by exact hSz) (fun hHeld => ?_)
                clear hKK KK
                (try simp only [Act.put, List.setIfInBounds_toArray, List.set_cons_zero, List.set_cons_succ])
                refine wpAnyH_ready (rs := [7]) (by kernel_rfl) (by simp) ?_
                refine next_at (i := 7) rfl (fun KK hKK => ?_) AllReadyH.nil
                refine step_app1 (w := wa.drew.alloc (.cells #[.int .i64 o.code, .int .i64 o.res, .int .i64 0, .int .i64 0, .int .u16 o.n, .slice none 0 0] 33)) (P := Tryz.prog) (base := w7.heap.size) (n := q) (m := 1) (xs := rowOf (l.take q)) ap27 rfl (.tmp 80) (.tmp 82) rfl rfl HOA.out rfl (heap_new wa.drew _) rfl (by simp [Value.oneCell']) (by omega) HB2.out ?_
                intro v9 w9 hap
                obtain ⟨g9, cr, cs9, rfl, hSr, hr9, hcr, hown9⟩ := hap.row (k := q + 1) rfl (by omega)
                have hl9 : Low w7.heap.size wa w9 := (((Low.refl w7.heap.size wa).drew).alloc HB1.out _).trans (hap.low HOA.out (Nat.le_refl _) HB2.out)
                have ha9 : w9.heap[t10]? = some (.cells #[.int .i64 o.code, .int .i64 o.res, .int .i64 0, .int .i64 0, .int .u16 o.n, .slice none 0 0] 33 (0, 0)) := (hap.block t10 (heap_lt AT.out) HNO.out).trans AT.out
                have hb9 := hl9.obj H7s.out HRA.out
                have hS9 : w9.cell? ⟨t10, 0, none⟩ = some (.int .i64 o.code) ∧ w9.cell? ⟨t10, 1, none⟩ = some (.int .i64 o.res) ∧ w9.cell? ⟨t10, 2, none⟩ = some (.int .i64 0) ∧ w9.cell? ⟨t10, 3, none⟩ = some (.int .i64 0) ∧ w9.cell? ⟨t10, 4, none⟩ = some (.int .u16 o.n) ∧ w9.cell? ⟨t10, 5, none⟩ = some (.slice none 0 0) := ⟨cell_of ha9, cell_of ha9, cell_of ha9, cell_of ha9, cell_of ha9, cell_of ha9⟩
                have x9 : w9.cell? ⟨bk, 1, none⟩ = some v := cell_of hb9
                have f9 : w9.frozen? ⟨bk, 1, none⟩ = false := free_of hb9
                have HAP := Lib.hid hown9; have HL9 := Lib.hid hl9; have HB9 := Lib.hid hb9
                have hSF : (w9.setCell ⟨bk, 1, none⟩ (.slice (some ⟨g9, 0, none⟩) (q + 1) cr)).cell? ⟨t10, 0, none⟩ = some (.int .i64 o.code) ∧ (w9.setCell ⟨bk, 1, none⟩ (.slice (some ⟨g9, 0, none⟩) (q + 1) cr)).cell? ⟨t10, 1, none⟩ = some (.int .i64 o.res) ∧ (w9.setCell ⟨bk, 1, none⟩ (.slice (some ⟨g9, 0, none⟩) (q + 1) cr)).cell? ⟨t10, 2, none⟩ = some (.int .i64 0) ∧ (w9.setCell ⟨bk, 1, none⟩ (.slice (some ⟨g9, 0, none⟩) (q + 1) cr)).cell? ⟨t10, 3, none⟩ = some (.int .i64 0) ∧ (w9.setCell ⟨bk, 1, none⟩ (.slice (some ⟨g9, 0, none⟩) (q + 1) cr)).cell? ⟨t10, 4, none⟩ = some (.int .u16 o.n) ∧ (w9.setCell ⟨bk, 1, none⟩ (.slice (some ⟨g9, 0, none⟩) (q + 1) cr)).cell? ⟨t10, 5, none⟩ = some (.slice none 0 0) := ⟨cell_of ((set_other HTB.out).trans ha9), cell_of ((set_other HTB.out).trans ha9), cell_of ((set_other HTB.out).trans ha9), cell_of ((set_other HTB.out).trans ha9), cell_of ((set_other HTB.out).trans ha9), cell_of ((set_other HTB.out).trans ha9)⟩
                clear hap hr9 hown9 hl9 ha9 hb9
                refine hKK.out _ _ (by exact hS9) (fun hHeld => ?_)
                clear hKK KK
                (try simp only [Act.put, List.setIfInBounds_toArray, List.set_cons_zero, List.set_cons_succ])
                refine take_at (i := 8) (v := ?_) rfl (by kernel_rfl) (by kernel_rfl) (by kernel_rfl) (fun _ _ _ h => h) (by rfl) ?_ (by assumption) ?_
                rotate_left
                · intro w' hSw; obtain ⟨s0, s1, s2, s3, s4, s5⟩ := hSw; go_simp; (try with_reducible rfl)
                (try simp only [Act.put, List.setIfInBounds_toArray, List.set_cons_zero, List.set_cons_succ])
                refine take_at (i := 9) (v := ?_) rfl (by kernel_rfl) (by kernel_rfl) (by kernel_rfl) (fun _ _ _ h => h) (by rfl) ?_ (by assumption) ?_
                rotate_left
                · intro w' hSw; obtain ⟨s0, s1, s2, s3, s4, s5⟩ := hSw; go_simp; (try with_reducible rfl)
                (try simp only [Act.put, List.setIfInBounds_toArray, List.set_cons_zero, List.set_cons_succ])
                refine wpAnyH_ready (rs := [10]) (by kernel_rfl) (by simp) ?_
                refine next_at (i := 10) rfl (fun KK hKK => ?_) AllReadyH.nil
                go_simp
                refine hKK.out _ _ (by exact hSF) (fun hHeld => ?_)
                clear hKK KK
                (try simp only [Act.put, List.setIfInBounds_toArray, List.set_cons_zero, List.set_cons_succ])
                refine wpAnyH_done (by kernel_rfl) ?_ _
                refine NoPanic.normal ?_
                have hOF : Own (w9.setCell ⟨bk, 1, none⟩ (.slice (some ⟨g9, 0, none⟩) (q + 1) cr)) w7.heap.size 33 6 (.slice (some ⟨g9, 0, none⟩) (q + 1) cr) (q + 1) (rowOf (l.take (q + 1))) := by
                  have h1 := HAP.out
                  rw [take_snoc HOO.out, rowOf_snoc]
                  refine Own.kept h1 fun k hk => set_other ?_
                  rcases Own.form h1 with ⟨h2, _⟩ | ⟨k', c', cs', h2, hb', _, _⟩
                  · rw [h2] at hk; cases hk
                  · rw [h2] at hk; cases hk
                    have h18 := H7s.out
                    intro he
                    have he' : k' = bk := he
                    omega
                have hcF : Chs [bk] w7 (w9.setCell ⟨bk, 1, none⟩ (.slice (some ⟨g9, 0, none⟩) (q + 1) cr)) := ((HL.out.tail (L9.out.mono HSW.out)).tail HL9.out).trans (Chs.setCell _ (List.mem_singleton.2 rfl) _)
                have hRF := set_blk (i := 1) (v := .slice (some ⟨g9, 0, none⟩) (q + 1) cr) HB9.out
                have HOF := Lib.hid hOF; have HCF := Lib.hid hcF; have HRF := Lib.hid hRF
                clear hOF hcF hRF x9 f9 hS9 hSF
                (try go_wp2_with fail)
                exact ⟨⟨q + 1, _, rfl, hlt, HCF.out, HRF.out, HOF.out⟩, by show n - ((q : Int) + 1).toNat < n - ((q : Int)).toNat; omega⟩
            · have hlt' : ¬ (q : Int) < (n : Int) := by omega
              obtain rfl : q = n := by omega
              have hlen := hv.ops.1
              have hO' : Own wv w7.heap.size 33 6 v q (rowOf l) := by
                have := HO.out
                rw [List.take_of_length_le (by omega)] at this
                exact this
              obtain ⟨A2, c2, rfl, hops⟩ := OpsAt.of_own hO'
              have a7v := HL.out.obj A7.out (by rw [List.mem_singleton]; exact hbt)
              have y4 : wv.cell? ⟨t7, 4, none⟩ = some (.slice T 0 tc) := cell_of a7v
              have OPS := Lib.hid hops
              clear hv hO' hops a7v
              go_wp2_with fail
              go_loopw [118] (fun i wr => i = .int .i64 0 ∧ wr = wv) (fun _ _ => 0)
              case atStart => exact ⟨rfl, rfl⟩
              case round =>
                obtain ⟨rfl, rfl⟩ := hrel
                go_wp2_with fail
                exact ⟨.inr ⟨rfl, A2, c2, GV.out, OPS.out⟩, by decide⟩
        · obtain ⟨wz, rfl⟩ : ∃ u, u = wr := ⟨_, rfl⟩
          have yr : wz.cell? ⟨r, 0, none⟩ = some (.pointer (some ⟨bk, 0, none⟩)) := cell_of hG.fr
          have yg : wz.cell? ⟨gr, 0, none⟩ = some (.pointer none) := cell_of hG.fg
          have fg : wz.frozen? ⟨gr, 0, none⟩ = false := free_of hG.fg
          have cZ : Chs [gr] wz (wz.setCell ⟨gr, 0, none⟩ (.pointer (some ⟨bk, 0, none⟩))) := Chs.setCell _ (List.mem_singleton.2 rfl) _
          have hno : ∀ {b : Nat} {cs : Array Value} {e : TypeId} {fr : Nat × Nat}, wz.heap[b]? = some (.cells cs e fr) → e ≠ 74 → b ∉ [gr] := fun {b cs e fr} hq he hm => by
            rw [List.mem_singleton] at hm
            subst hm
            have h1 := hG.fg
            rw [hq] at h1
            cases h1
            exact he rfl
          have hem : ∀ {b : Nat}, Empty wz b → b ∉ [gr] := fun {b} ⟨cl, hg⟩ hm => by
            rw [List.mem_singleton] at hm
            subst hm
            have h1 := hG.fg
            rw [hg] at h1; cases h1
          have hgw : w.heap.size ≤ gr := by
            rcases Nat.lt_or_ge gr w.heap.size with hlt | hge
            · exact (HGR.out hlt).elim
            · exact hge
          have hlF : Low w.heap.size w (wz.setCell ⟨gr, 0, none⟩ (.pointer (some ⟨bk, 0, none⟩))) := hG.lo.setCell hgw _
          have hH := H.out.low hG.lo
          have hpF : ParAt (wz.setCell ⟨gr, 0, none⟩ (.pointer (some ⟨bk, 0, none⟩))) Pp pc := hH.par.chs cZ (fun b hb cs hb2 => hno hb2 (by decide) hb)
          have hgF : Gr (wz.setCell ⟨gr, 0, none⟩ (.pointer (some ⟨bk, 0, none⟩))) gr bk S df nm ob cm om next Pp pc A' n c' none 0 l := by
            obtain ⟨cl, hcl⟩ := hG.df_.chs cZ (hem hG.df_)
            exact ⟨set_blk hG.fg, cZ.obj hG.fb (hno hG.fb (by decide)), hG.al_.chs cZ (hem hG.al_), hG.nm_.chs cZ (hem hG.nm_), hG.ob_.chs cZ (hem hG.ob_), hG.cm_.chs cZ (hem hG.cm_), hG.om_.chs cZ (hem hG.om_), hO.chs cZ (fun b cs hb => hno hb (by decide)), ⟨[], ⟨#[], cl, hcl, ents_nil⟩, by simp⟩, hH.ok, hn12, hG.dne, hH.inc⟩
          have HF := Lib.hid (show Low w.heap.size w (wz.setCell ⟨gr, 0, none⟩ (.pointer (some ⟨bk, 0, none⟩))) ∧ w.heap.size ≤ bk ∧ w.heap.size ≤ df ∧ ParAt (wz.setCell ⟨gr, 0, none⟩ (.pointer (some ⟨bk, 0, none⟩))) Pp pc ∧ Gr (wz.setCell ⟨gr, 0, none⟩ (.pointer (some ⟨bk, 0, none⟩))) gr bk S df nm ob cm om next Pp pc A' n c' none 0 l from ⟨hlF, hG.lb.1, hG.lb.2, hpF, hgF⟩)
          clear cZ hno hem hgw hlF hH hpF hgF hO hG HG
          go_wp2_with fail
          go_ret
          exact (⟨HF.out.1, gr, bk, S, df, nm, ob, cm, om, next, A', c', rfl, HF.out.2.1, HF.out.2.2.1, HF.out.2.2.2.1, HF.out.2.2.2.2⟩)
end Go.Proofs.YtnjdegjpmbdboaaGreat
