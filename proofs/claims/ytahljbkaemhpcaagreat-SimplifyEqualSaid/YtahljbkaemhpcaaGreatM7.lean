/- The maker: block. -/
import Derived.Test.YtahljbkaemhpcaaGreatM6
namespace Go.Proofs.YtahljbkaemhpcaaGreat
open Go.RowKit
set_option linter.unusedVariables false
theorem newInt {B K : Nat} {w : World} {z : Int} (h : B ≤ w.heap.size) : SlV B (K + 1) (w.alloc (.cells #[.int .i64 z] 3)) 3 1 (.slice (some ⟨w.heap.size, 0, none⟩) 1 1) 1 := ⟨by omega, .inr ⟨w.heap.size, 1, #[.int .i64 z], rfl, h, Nat.le_refl _, heap_alloc_new w _, Nat.le_refl _⟩⟩
/-- A call of a function of the program, as a step of a region that draws its order. -/
theorem step_call {P : Program} {ops : Array Oper} {o : Oper} {a : Act} {w : World} {KK : Act → World → Prop} {Q : Exit → Act → World → Prop} {E : Prop} (hgd : o.guard = none) (f : FuncId) (args : Array Value) (hr : (execOp a.eval o).run P w = .ok (.enter f args) w)
    (R : Value → World → Prop) (hc : Calls P f args w (fun e w' => ∃ v, e = .returned v ∧ R v w')) (h : ∀ v w', R v w' → KK (a.put o.dst v) w') : if Region.wanted o (yielded ops a.tmps) = true then Oper.wp P o a w KK Q else E := by
  have hw : Region.wanted o (yielded ops a.tmps) = true := by simp [Region.wanted, hgd]
  rw [if_pos hw]
  unfold Oper.wp
  rw [hr, Oper.upon_enter]
  refine hc.mono ?_
  rintro e w' ⟨v, rfl, hR⟩
  exact h v w' hR
/-- While the parameters of a new block are made: s is the block, it has k parameters. -/
def Blo (c : Cx) (K : Nat) (w : World) (d : Mk) (k : Nat) (wr : World) : Prop :=
  ∃ (A : Option Addr) (ca : Nat), MK c (K + k + k) wr { d with next := d.next + k } ∧ Fr c w wr ∧ wr.heap[w.heap.size]? = some (.cells #[.slice A k ca, .slice none 0 0, .int .i64 0, .int .i64 0, .slice none 0 0] 46 (0, 0)) ∧ SlV c.B (K + k + k) wr 3 1 (.slice A k ca) k ∧ ∀ g, Value.ownBlock (.slice A k ca) = some g → w.heap.size ≤ g
/-- One more parameter was appended. -/
theorem afterB {c : Cx} {K1 k k0 : Nat} {w wr w' w9 : World} {d1 : Mk} {A : Option Addr} {ca : Nat} {v9 x : Value} {csi cS : Array Value} (hk : MK c K1 w' d1) (hK : K1 + 1 ≤ big) (fr : Fr c w wr) (hfr : Fr c wr.drew w') (hs : w'.heap[w.heap.size]? = some (.cells cS 46 (0, 0))) (sv : SlV c.B k0 wr 3 1 (.slice A k ca) k) (hk0 : k0 ≤ K1) (own : ∀ g, Value.ownBlock (.slice A k ca) = some g → w.heap.size ≤ g)
    (hB : c.B ≤ w.heap.size) (hpa : c.pa < w.heap.size) (happ : App c.B (K1 + 1) (w'.alloc (.cells csi 3)) w9 3 1 (.slice A k ca) x k 1 v9) :
    ∃ A9 c9, v9 = .slice A9 (k + 1) c9 ∧ MK c (K1 + 1) w9 d1 ∧ Fr c w w9 ∧ w9.heap[w.heap.size]? = some (.cells cS 46 (0, 0)) ∧ SlV c.B (K1 + 1) w9 3 1 (.slice A9 (k + 1) c9) (k + 1) ∧ ∀ g, Value.ownBlock (.slice A9 (k + 1) c9) = some g → w.heap.size ≤ g := by
  obtain ⟨A9, c9, rfl⟩ := happ.slv.form
  have fw : Fr c w w' := fr.drew.trans hfr
  have hsz := fw.below.size
  have fa : Fr c w (w'.alloc (.cells csi 3)) := fw.alloc hk.size _
  have s1 : SlV c.B K1 (w'.alloc (.cells csi 3)) 3 1 (.slice A k ca) k := (sv.on hfr.shape hk0).on ((Shape.refl _).alloc _) (Nat.le_refl _)
  have fin : Fr c w w9 := fa.app happ (.inl (.inl rfl)) s1 (fun h => by have := own _ h; omega) hB
  have up : ∀ g o, w'.heap[g]? = some o → (w'.alloc (.cells csi 3)).heap[g]? = some o := fun g o hg => by rw [Below.heap_alloc _ _ _ (heap_lt hg)]; exact hg
  refine ⟨A9, c9, rfl, ?_, fin, happ.other s1 (up _ _ hs) (by decide), happ.slv, fun g hg => ?_⟩
  · have hbel : Below c.B w' w9 := by
      have h1 : Below c.B w' (w'.alloc (.cells csi 3)) := (Below.refl _ _).alloc hk.size _
      refine ⟨happ.os.trans h1.os, happ.tape.trans h1.tape, happ.out.trans h1.output, Nat.le_trans h1.size happ.size, fun k hkk => (happ.far k ?_ ?_).trans (h1.block k hkk)⟩
      · have := h1.size; have := hk.size; omega
      · intro hh; have := own _ hh; omega
    refine hk.on ((happ.other s1 (up _ _ hk.blk) (by decide)).trans hk.blk.symm) hbel (((Shape.refl _).alloc _).trans happ.shape) happ.wt (by omega) hK fun g cc j hb hj => ?_
    obtain ⟨cs, h1, _⟩ := hk.blLt hb
    rw [cell_of (happ.other s1 (up _ _ h1) (by decide)), cell_of h1]
  · rcases happ.home with h | h
    · exact own g (h ▸ hg)
    · rw [h] at hg; cases hg; simp; omega
/-- The new parameters are laid into the new block. -/
theorem afterS {c : Cx} {K k : Nat} {w w9 : World} {d1 : Mk} {A9 : Option Addr} {c9 : Nat} {v : Value} {c1 c2 c3 c4 : Value} (hk : MK c K w9 d1) (hf : Fr c w w9) (hs : w9.heap[w.heap.size]? = some (.cells #[v, c1, c2, c3, c4] 46 (0, 0))) (sv : SlV c.B K w9 3 1 (.slice A9 k c9) k) (hB : c.B ≤ w.heap.size) (hpa : c.pa < w.heap.size) (hbl : ∀ g cc n, d1.bl = .slice (some ⟨g, 0, none⟩) n cc → g < w.heap.size) :
    MK c K (w9.setCell ⟨w.heap.size, 0, none⟩ (.slice A9 k c9)) d1 ∧ Fr c w (w9.setCell ⟨w.heap.size, 0, none⟩ (.slice A9 k c9)) ∧ (w9.setCell ⟨w.heap.size, 0, none⟩ (.slice A9 k c9)).heap[w.heap.size]? = some (.cells #[.slice A9 k c9, c1, c2, c3, c4] 46 (0, 0)) ∧ SlV c.B K (w9.setCell ⟨w.heap.size, 0, none⟩ (.slice A9 k c9)) 3 1 (.slice A9 k c9) k :=
  ⟨hk.setLoose hs (by decide) hB (fun cc n h => by have := hbl _ _ _ h; omega) (fun ck hl => by cases hl; exact ⟨_, sv⟩), hf.setCell _ _ _ hB (by omega) (.inl (Nat.le_refl _)), by rw [Eng.setCell_blk hs]; rfl, sv.on ((Shape.refl _).setCell _ rfl _) (Nat.le_refl _)⟩
theorem closeB {c : Cx} {K k : Nat} {w wx : World} {d : Mk} {A9 : Option Addr} {c9 : Nat} (h : MK c (K + k + k + 1 + 1) wx { d with next := d.next + k + 1 }) (hf : Fr c w wx) (hs : wx.heap[w.heap.size]? = some (.cells #[.slice A9 (k + 1) c9, .slice none 0 0, .int .i64 0, .int .i64 0, .slice none 0 0] 46 (0, 0))) (sv : SlV c.B (K + k + k + 1 + 1) wx 3 1 (.slice A9 (k + 1) c9) (k + 1)) (ho : ∀ g, Value.ownBlock (.slice A9 (k + 1) c9) = some g → w.heap.size ≤ g) : Blo c K w d (k + 1) wx := by
  have e : K + k + k + 1 + 1 = K + (k + 1) + (k + 1) := by omega
  rw [e] at h sv
  exact ⟨A9, c9, h, hf, hs, sv, ho⟩
theorem newBlk {B K : Nat} {w : World} {cs : Array Value} (h : B ≤ w.heap.size) (hsz : cs.size = 5) : SlV B (K + 1) (w.alloc (.cells cs 46)) 46 5 (.slice (some ⟨w.heap.size, 0, none⟩) 1 1) 1 := ⟨by omega, .inr ⟨w.heap.size, 1, cs, rfl, h, Nat.le_refl _, heap_alloc_new w _, by omega⟩⟩
/-- A block was appended to the maker's. -/
theorem afterP {c : Cx} {K k L : Nat} {w wr w9 : World} {d : Mk} {A Ab : Option Addr} {ca kb : Nat} {v9 : Value} (hk : MK c K wr d) (hK : K + 1 ≤ big) (fr : Fr c w wr) (hB : c.B ≤ w.heap.size) (sv : SlV c.B K wr 3 1 (.slice A k ca) k) (hL : d.PL.length = L) (hbl : d.bl = .slice Ab L kb)
    (happ : App c.B (K + 1) (wr.drew.alloc (.cells #[.slice A k ca, .slice none 0 0, .int .i64 0, .int .i64 0, .slice none 0 0] 46)) w9 46 5 (.slice Ab L kb) (.slice (some ⟨wr.heap.size, 0, none⟩) 1 1) L 1 v9) :
    ∃ A9 c9, v9 = .slice A9 (L + 1) c9 ∧ w9.heap[c.m]? = some (.cells (mkCells c d) 56 (0, 0)) ∧ MK c (K + 1) (w9.setCell ⟨c.m, 4, none⟩ (.slice A9 (L + 1) c9)) { d with bl := .slice A9 (L + 1) c9, PL := d.PL ++ [k] } ∧ Fr c w (w9.setCell ⟨c.m, 4, none⟩ (.slice A9 (L + 1) c9)) := by
  obtain ⟨g9, c9, rfl⟩ : ∃ g c', v9 = .slice (some ⟨g, 0, none⟩) (L + 1) c' := by
    obtain ⟨_, ⟨_, h⟩ | ⟨g, c', cs, h, _⟩⟩ := happ.slv
    · omega
    · exact ⟨g, c', h⟩
  have hbs : SlV c.B K wr 46 5 (.slice Ab L kb) L := hbl ▸ hL ▸ hk.bls
  have hs1 : SlV c.B K (wr.drew.alloc (.cells #[.slice A k ca, .slice none 0 0, .int .i64 0, .int .i64 0, .slice none 0 0] 46)) 46 5 (.slice Ab L kb) L := hbs.on ((Shape.refl wr).drew.alloc _) (Nat.le_refl _)
  have up : ∀ g o, wr.heap[g]? = some o → (wr.drew.alloc (.cells #[.slice A k ca, .slice none 0 0, .int .i64 0, .int .i64 0, .slice none 0 0] 46)).heap[g]? = some o := fun g o hg => by rw [Below.heap_alloc _ _ _ (by rw [drew_heap]; exact heap_lt hg)]; exact hg
  have hm9 := happ.other hs1 (up _ _ hk.blk) (by decide)
  have h1 : Below c.B wr (wr.drew.alloc (.cells #[.slice A k ca, .slice none 0 0, .int .i64 0, .int .i64 0, .slice none 0 0] 46)) := (Below.refl _ _).drew.alloc hk.size _
  have hbel : Below c.B wr w9 := by
    refine ⟨happ.os.trans h1.os, happ.tape.trans h1.tape, happ.out.trans h1.output, Nat.le_trans h1.size happ.size, fun k hkk => (happ.far k ?_ ?_).trans (h1.block k hkk)⟩
    · have := h1.size; have := hk.size; omega
    · intro hh; obtain ⟨cs, _, h2⟩ := hbs.own hh; omega
  have sh : Shape wr w9 := ((Shape.refl wr).drew.alloc _).trans happ.shape
  have shx : Shape w9 (w9.setCell ⟨c.m, 4, none⟩ (.slice (some ⟨g9, 0, none⟩) (L + 1) c9)) := (Shape.refl _).setCell _ rfl _
  have hpa9 : Fr c w w9 := (fr.drew.alloc hk.size _).app happ (.inl (.inr (.inr rfl))) hs1 (fun hh => by
    obtain ⟨cs, h2, _⟩ := hbs.own hh
    obtain ⟨cs3, h3⟩ := hk.paT
    rw [h3] at h2; cases h2) hB
  have hmg : g9 ≠ c.m := by
    intro e
    obtain ⟨cs, h2, _⟩ := happ.slv.own (g := g9) rfl
    rw [e, hm9] at h2; cases h2
  have b9 := happ.slv
  refine ⟨_, _, rfl, hm9, ⟨?_, hk.mB, fun j hj => ?_, hk.sl, by have := hk.at_; show d.at_ ≤ K + 1; omega, by have := hk.next; show d.next ≤ K + 1; omega, by have := hk.left0; show -((K + 1 : Nat) : Int) ≤ d.left; omega, by have := hk.left1; show d.left ≤ ((K + 1 : Nat) : Int); omega, ?_, fun j n hj => ?_, (hk.vals.on sh (Nat.le_succ K)).on shx (Nat.le_refl _), hk.vpa,
    happ.wt.setCell _ _ _ fun cs e fr hg ck hl => ?_, ?_, hK, ?_, hk.paNe, ?_⟩, hpa9.setCell _ _ _ hk.mB hk.paNe (.inr ⟨_, _, _, hm9, .inr (.inr (.inr rfl))⟩)⟩
  · rw [Eng.setCell_blk hm9]; simp [mkCells]
  · obtain ⟨g, o, z, a1, a2, a3⟩ := hk.inp j hj
    refine ⟨g, o, z, a1, a2, (cell_set_ne ?_).trans ((hbel.cell (p := ⟨g, o + j, none⟩) a2).trans a3)⟩
    have := hk.mB; omega
  · show SlV c.B (K + 1) _ 46 5 _ (d.PL ++ [k]).length
    rw [List.length_append, hL]
    exact b9.on shx (Nat.le_refl _)
  · have hj' : (d.PL ++ [k])[j]? = some n := hj
    have hlen : (d.PL ++ [k]).length = L + 1 := by rw [List.length_append, hL]; rfl
    rw [List.getElem?_append] at hj'
    split at hj'
    · rename_i hlt
      obtain ⟨g, cc, v, e1, e2, e3⟩ := hk.pls j n hj'
      rw [hbl] at e1
      injection e1 with e1 e1' e1''
      refine ⟨g9, c9, v, by show Value.slice _ _ _ = .slice _ (d.PL ++ [k]).length _; rw [hlen], ?_, (e3.on sh (Nat.le_succ K)).on shx (Nat.le_refl _)⟩
      rw [cell_set_ne hmg, happ.old g kb g9 c9 (by rw [e1]) rfl (j * 5) (by omega), cell_alloc (by
        rw [drew_heap]
        obtain ⟨cs, h2, _⟩ := hbs.own (g := g) (by rw [e1]; rfl)
        exact heap_lt h2)]
      exact e2
    · rename_i hge
      have hjL : j = L := by
        have := (List.getElem?_eq_some_iff.1 hj').1
        simp only [List.length_singleton] at this; omega
      subst hjL
      rw [hL, Nat.sub_self] at hj'
      cases hj'
      refine ⟨g9, c9, .slice A k ca, by show Value.slice _ _ _ = .slice _ (d.PL ++ [k]).length _; rw [hlen], ?_, (sv.on sh (Nat.le_succ K)).on shx (Nat.le_refl _)⟩
      rw [cell_set_ne hmg]
      have := happ.new wr.heap.size 1 g9 c9 rfl rfl 0 (by omega)
      rw [Nat.add_zero] at this
      exact this.trans (cell_of (heap_alloc_new wr.drew _))
  · rw [hm9] at hg; cases hg; cases hl
  · rw [Eng.setCell_size]; exact Nat.le_trans hk.size hbel.size
  · rw [Eng.setCell_size]; exact Nat.lt_of_lt_of_le hk.paLt hbel.size
  · obtain ⟨cs, h2⟩ := hk.paT
    obtain ⟨cs', h3, _⟩ := sh _ _ _ _ h2
    obtain ⟨cs2, h4, _⟩ := shx _ _ _ _ h3
    exact ⟨cs2, h4⟩
def BlockP (c : Cx) (K : Nat) (w : World) (d : Mk) (n : Nat) (e : Ending) (w' : World) : Prop :=
  ∃ d', e = .returned (.int .i64 d.PL.length) ∧ MK c (K + n + n + 1) w' d' ∧ d'.PL = d.PL ++ [n] ∧ d'.cur = d.cur ∧ d'.nv = d.nv ∧ d'.vals = d.vals ∧ Fr c w w'
set_option maxRecDepth 100000 in
set_option maxHeartbeats 4000000 in
theorem block_mk (c : Cx) (K : Nat) (w : World) (d : Mk) (n : Nat) (h : MK c K w d) (hn : n ≤ 3) (hK : K + n + n + 1 ≤ big) : Calls Tryz.prog 13 #[.pointer (some ⟨c.m, 0, none⟩), .int .i64 n] w (BlockP c K w d n) := by
  have lm := heap_lt h.blk
  have hstart : Blo c K w d 0 (w.alloc (.cells #[.slice none 0 0, .slice none 0 0, .int .i64 0, .int .i64 0, .slice none 0 0] 46)) := by
    have hw := h.wt.alloc #[.slice none 0 0, .slice none 0 0, .int .i64 0, .int .i64 0, .slice none 0 0] 46 (blk_typed (n0 := 0) (n1 := 0) (n4 := 0) ⟨Nat.zero_le _, .inl ⟨rfl, rfl⟩⟩ ⟨Nat.zero_le _, .inl ⟨rfl, rfl⟩⟩ ⟨Nat.zero_le _, .inl ⟨rfl, rfl⟩⟩)
    exact ⟨none, 0, h.alloc _ hw, (Fr.refl c w).alloc h.size _, heap_alloc_new w _, ⟨Nat.zero_le _, .inl ⟨rfl, rfl⟩⟩, fun g hg => by rw [own_none] at hg; cases hg⟩
  have hblt : ∀ g cc n, d.bl = .slice (some ⟨g, 0, none⟩) n cc → g < w.heap.size := fun g cc n hb => by
    obtain ⟨_, ⟨h1, _⟩ | ⟨g', c', cs, h1, h2, h3, h4, h5⟩⟩ := h.bls
    · rw [h1] at hb; cases hb
    · rw [h1] at hb; cases hb; exact heap_lt h4
  have HBLT := Lib.hid hblt
  clear hblt
  have HS := Lib.hid hstart; have H := Lib.hid h
  clear hstart h
  go_enter Tryz.func13, Tryz.ntmps13
  go_wp2_with fail
  go_loopw [6] (fun i wr => ∃ k : Nat, i = .int .i64 k ∧ k ≤ n ∧ Blo c K w d k wr) (fun i _ => n - (intOf i).toNat)
  case atStart => exact ⟨0, rfl, by omega, HS.out⟩
  case round =>
    obtain ⟨k, rfl, hk, hB⟩ := hrel
    have HB := Lib.hid hB
    obtain ⟨A, ca, mk, fr, hb, sv, own⟩ := hB
    have q0 : wr.cell? ⟨w.heap.size, 0, none⟩ = some (.slice A k ca) := cell_of hb
    have qf : wr.frozen? ⟨w.heap.size, 0, none⟩ = false := by simp [World.frozen?, hb]
    by_cases hlt : k < n
    · have hlt' : (k : Int) < (n : Int) := by omega
      have hms : c.m ≠ w.heap.size := by omega
      have MKH := Lib.hid mk; have FRH := Lib.hid fr; have HBH := Lib.hid hb; have SVH := Lib.hid sv; have OWN := Lib.hid own
      clear fr hb sv own
      have hK1 : K + k + k + 1 ≤ big := by omega
      go_wp2_with fail
      have hK2 : K + k + k + 1 + 1 ≤ big := by omega
      have hKB : k ≤ K + k + k := SVH.out.1
      go_region_law (first
        | (refine step_call rfl 36 #[.pointer (some ⟨c.m, 0, none⟩)] (by go_simp) (fun v w' => v = .int .i64 ((d.next + k : Nat) : Int) ∧ MK c (K + k + k + 1) w' { d with next := d.next + k + 1 } ∧ Fr c wr.drew w' ∧ w' = wr.drew.setCell ⟨c.m, 6, none⟩ (.int .i64 (((d.next + k : Nat) : Int) + 1))) ((fresh_mk mk.drew hK1).mono (fun e w' h => ⟨_, h.1, rfl, h.2.1, h.2.2.1, h.2.2.2⟩)) ?_; rintro v w' ⟨rfl, hmk, hfr, hw'⟩; have hb8 : w'.heap[w.heap.size]? = some (.cells #[.slice A k ca, .slice none 0 0, .int .i64 0, .int .i64 0, .slice none 0 0] 46 (0, 0)) := (by rw [hw', Eng.setCell_other hms.symm]; exact HBH.out); have q8 : w'.cell? ⟨w.heap.size, 0, none⟩ = some (.slice A k ca) := cell_of hb8; have l8 : w.heap.size < w'.heap.size := heap_lt hb8; have q8a : (w'.alloc (.cells #[.int .i64 ((d.next : Int) + (k : Int))] 3)).cell? ⟨w.heap.size, 0, none⟩ = some (.slice A k ca) := (cell_alloc l8).trans q8; have HW' := Lib.hid hw'; have HB8 := Lib.hid hb8; have HFR := Lib.hid hfr; clear hw' hb8 hfr)
        | (refine step_append_el (w := w'.alloc (.cells #[.int .i64 ((d.next + k : Nat) : Int)] 3)) (P := Tryz.prog) (B := c.B) (K := K + k + k + 1) (K' := K + k + k + 1 + 1) (n := k) (m := 1) rfl (.tmp 13) (.tmp 16) rfl el22 (hmk.wt.alloc _ 3 (int_typed _)) rfl rfl ((SVH.out.on HFR.out.shape (Nat.le_succ _)).on ((Shape.refl _).alloc _) (Nat.le_refl _)) (newInt hmk.size) (by omega) (by omega) (by have : big = 1073741824 := rfl; omega) (by have := hmk.size; simp; omega) ?_; intro v9 w9 happ; obtain ⟨A9, c9, rfl, mk9, fr9, hb9, sv9, own9⟩ := afterB hmk hK2 FRH.out HFR.out HB8.out SVH.out (Nat.le_succ _) OWN.out H.out.size H.out.paLt happ; obtain ⟨mkA, frA, hbA, svA⟩ := afterS mk9 fr9 hb9 sv9 H.out.size H.out.paLt HBLT.out; have q9 : w9.cell? ⟨w.heap.size, 0, none⟩ = some (.slice A k ca) := cell_of hb9; have f9 : w9.frozen? ⟨w.heap.size, 0, none⟩ = false := (by simp [World.frozen?, hb9]); have MKA := Lib.hid mkA; have FRA := Lib.hid frA; have HBA := Lib.hid hbA; have SVA := Lib.hid svA; have OWNA := Lib.hid own9; clear happ mk9 fr9 hb9 sv9 own9 mkA frA hbA svA))
      all_goals (try go_wp2_with fail)
      all_goals exact ⟨⟨k + 1, rfl, hlt, closeB MKA.out FRA.out HBA.out SVA.out OWNA.out⟩, by show n - ((k : Int) + 1).toNat < n - ((k : Int)).toNat; omega⟩
    · have hkn : k = n := by omega
      subst hkn
      go_wp2_with fail
      obtain ⟨Ab, kb, hbl⟩ := mk.bls.form
      have m4 : wr.cell? ⟨c.m, 4, none⟩ = some (.slice Ab d.PL.length kb) := by rw [mk.cell 4, ← hbl]; rfl
      have s1 : wr.cell? ⟨w.heap.size, 1, none⟩ = some (.slice none 0 0) := cell_of hb
      have s2 : wr.cell? ⟨w.heap.size, 2, none⟩ = some (.int .i64 0) := cell_of hb
      have s3 : wr.cell? ⟨w.heap.size, 3, none⟩ = some (.int .i64 0) := cell_of hb
      have s4 : wr.cell? ⟨w.heap.size, 4, none⟩ = some (.slice none 0 0) := cell_of hb
      have lm2 := heap_lt mk.blk
      have ls2 := heap_lt hb
      have hwa := mk.wt.drew.alloc #[.slice A k ca, .slice none 0 0, .int .i64 0, .int .i64 0, .slice none 0 0] 46 (blk_typed (n0 := k) (n1 := 0) (n4 := 0) sv ⟨Nat.zero_le _, .inl ⟨rfl, rfl⟩⟩ ⟨Nat.zero_le _, .inl ⟨rfl, rfl⟩⟩)
      have hK1 : K + k + k + 1 ≤ big := hK
      have hbs : SlV c.B (K + k + k) wr 46 5 (.slice Ab d.PL.length kb) d.PL.length := hbl ▸ mk.bls
      have hbs1 : SlV c.B (K + k + k) (wr.drew.alloc (.cells #[.slice A k ca, .slice none 0 0, .int .i64 0, .int .i64 0, .slice none 0 0] 46)) 46 5 (.slice Ab d.PL.length kb) d.PL.length := hbs.on ((Shape.refl wr).drew.alloc _) (Nat.le_refl _)
      have hnb : SlV c.B (K + k + k + 1) (wr.drew.alloc (.cells #[.slice A k ca, .slice none 0 0, .int .i64 0, .int .i64 0, .slice none 0 0] 46)) 46 5 (.slice (some ⟨wr.heap.size, 0, none⟩) 1 1) 1 := newBlk mk.size rfl
      have hle1 : d.PL.length ≤ K + k + k := hbs.1
      have MKH := Lib.hid mk; have FRH := Lib.hid fr; have HBL := Lib.hid hbl; have SVH := Lib.hid sv
      clear fr hb sv own hbl
      go_region_law (first
        | (refine step_append_el (w := wr.drew.alloc (.cells #[.slice A k ca, .slice none 0 0, .int .i64 0, .int .i64 0, .slice none 0 0] 46)) (P := Tryz.prog) (B := c.B) (K := K + k + k + 1) (K' := K + k + k + 1) (n := d.PL.length) (m := 1) rfl (.tmp 24) (.tmp 26) rfl el32 (hwa.more (Nat.le_succ _)) rfl rfl (hbs1.on (Shape.refl _) (Nat.le_succ _)) hnb (by omega) (by omega) (by have : big = 1073741824 := rfl; omega) (by have := MKH.out.size; simp; omega) ?_; intro v9 w9 happ; obtain ⟨A9, c9, rfl, hm9, mk9, fr9⟩ := afterP MKH.out hK1 FRH.out H.out.size SVH.out rfl HBL.out happ; have q9 : w9.cell? ⟨c.m, 4, none⟩ = some d.bl := (cell_of hm9); have f9 : w9.frozen? ⟨c.m, 4, none⟩ = false := (by simp [World.frozen?, hm9]); have MK9 := Lib.hid mk9; have FR9 := Lib.hid fr9; clear happ mk9 fr9 hm9))
      all_goals
        have m4x : (w9.setCell ⟨c.m, 4, none⟩ (.slice A9 (d.PL.length + 1) c9)).cell? ⟨c.m, 4, none⟩ = some (.slice A9 (d.PL.length + 1) c9) := MK9.out.cell 4
        have hl0 : (0 : Int) ≤ (d.PL.length : Int) := by omega
        have hl1 : (d.PL.length : Int) ≤ 1099511627776 := by
          have : big = 1073741824 := rfl
          omega
        have MK9' : Hid (MK c (K + k + k + 1) (w9.setCell ⟨c.m, 4, none⟩ (.slice A9 (d.PL.length + 1) c9)) { d with next := d.next + k, bl := .slice A9 (d.PL.length + 1) c9, PL := d.PL ++ [k] }) := MK9
        have FR9' : Hid (Fr c w (w9.setCell ⟨c.m, 4, none⟩ (.slice A9 (d.PL.length + 1) c9))) := FR9
        clear MK9 FR9 q9 f9
        generalize w9.setCell ⟨c.m, 4, none⟩ (.slice A9 (d.PL.length + 1) c9) = w10 at MK9' FR9' m4x ⊢
        go_wp2_with fail
        go_ret
        exact ⟨_, rfl, MK9'.out, rfl, rfl, rfl, rfl, FR9'.out⟩
end Go.Proofs.YtahljbkaemhpcaaGreat
