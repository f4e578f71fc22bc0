/- The rules: single, rule. -/
import Derived.Test.YtnjdegjpmbdboaaGreatQ7
/- A graph of one block, without constants: resolve changes nothing. -/
namespace Go.Proofs.YtnjdegjpmbdboaaGreat
open Go.RowKit
set_option linter.unusedVariables false
/-- One block alone may have changed. -/
structure Ch (b : Nat) (w w' : World) : Prop where
  os : w'.os = w.os
  out : w'.output = w.output
  size : w.heap.size ≤ w'.heap.size
  block : ∀ g, g < w.heap.size → g ≠ b → w'.heap[g]? = w.heap[g]?
theorem Ch.of_low {b : Nat} {w w' : World} (h : Low w.heap.size w w') : Ch b w w' := ⟨h.os, h.out, h.size, fun g hg _ => h.block g hg⟩
theorem Ch.trans {b : Nat} {w w' w'' : World} (h : Ch b w w') (h' : Ch b w' w'') : Ch b w w'' := ⟨h'.os.trans h.os, h'.out.trans h.out, Nat.le_trans h.size h'.size, fun g hg hb => (h'.block g (Nat.lt_of_lt_of_le hg h.size) hb).trans (h.block g hg hb)⟩
theorem Ch.set {b i : Nat} (w : World) (v : Value) : Ch b w (w.setCell ⟨b, i, none⟩ v) := ⟨rfl, rfl, by rw [set_size]; exact Nat.le_refl _, fun g _ hb => set_other hb⟩
theorem Ch.low {b S : Nat} {w w' : World} (h : Ch b w w') (hb : S ≤ b) (hS : S ≤ w.heap.size) : Low S w w' := ⟨h.os, h.out, h.size, fun g hg => h.block g (by omega) (by omega)⟩
theorem Ch.obj {b g : Nat} {w w' : World} {o : Obj} (h : Ch b w w') (ho : w.heap[g]? = some o) (hb : g ≠ b) : w'.heap[g]? = some o := (h.block g (heap_lt ho) hb).trans ho
section
variable {w w' : World} {gr bk al df nm ob cm om : Nat} {next : Int} {Pp : Option Addr} {pc : Nat} {A : Option Addr} {n c : Nat} {T : Option Addr} {tc : Nat} {l : List Opn}
theorem Empty.ch {g b : Nat} (h : Empty w g) (hc : Ch b w w') (hb : g ≠ b) : Empty w' g := by
  obtain ⟨cl, hg⟩ := h
  exact ⟨cl, hc.obj hg hb⟩
theorem DefOk.ch {g b : Nat} (h : DefOk w g) (hc : Ch b w w') (hb : g ≠ b) : DefOk w' g := by
  obtain ⟨m, ⟨es, cl, hg, he⟩, hp⟩ := h
  exact ⟨m, ⟨es, cl, hc.obj hg hb, he⟩, hp⟩
theorem Gr.neDf (h : Gr w gr bk al df nm ob cm om next Pp pc A n c T tc l) : df ≠ bk := by
  obtain ⟨m, ⟨es, cl, hg, _⟩, _⟩ := h.df_
  rintro rfl
  rw [h.b] at hg; cases hg
theorem Gr.ne (h : Gr w gr bk al df nm ob cm om next Pp pc A n c T tc l) : gr ≠ bk ∧ al ≠ bk ∧ nm ≠ bk ∧ ob ≠ bk ∧ cm ≠ bk ∧ om ≠ bk := by
  have hm : ∀ g, Empty w g → g ≠ bk := fun g ⟨cl, hg⟩ => by
    rintro rfl
    rw [h.b] at hg; cases hg
  refine ⟨?_, hm _ h.al_, hm _ h.nm_, hm _ h.ob_, hm _ h.cm_, hm _ h.om_⟩
  rintro rfl
  have := h.b
  rw [h.g] at this; cases this
/-- The block's edges are laid anew. -/
theorem Gr.edges {T' : Option Addr} {tc' : Nat} (h : Gr w gr bk al df nm ob cm om next Pp pc A n c T tc l) : Gr (w.setCell ⟨bk, 4, none⟩ (.slice T' 0 tc')) gr bk al df nm ob cm om next Pp pc A n c T' tc' l := by
  obtain ⟨n1, n2, n3, n4, n5, n6⟩ := h.ne
  have hc : Ch bk w (w.setCell ⟨bk, 4, none⟩ (.slice T' 0 tc')) := Ch.set _ _
  refine ⟨hc.obj h.g n1, by rw [set_blk h.b]; rfl, h.al_.ch hc n2, h.nm_.ch hc n3, h.ob_.ch hc n4, h.cm_.ch hc n5, h.om_.ch hc n6, ⟨h.ops.1, fun j o hj => ?_⟩, h.df_.ch hc h.neDf, h.ok, h.small, h.dne, h.inc⟩
  obtain ⟨g, cs, e, hcc, hg, r⟩ := h.ops.2 j o hj
  refine ⟨g, cs, e, hcc, hc.obj hg ?_, r⟩
  rintro rfl
  rw [h.b] at hg; cases hg
end
set_option maxRecDepth 100000 in
set_option maxHeartbeats 8000000 in
theorem resolve_any (w : World) (gr bk al df nm ob cm om : Nat) (next : Int) (Pp : Option Addr) (pc : Nat) (A : Option Addr) (n c : Nat) (T : Option Addr) (tc : Nat) (l : List Opn) (h : Gr w gr bk al df nm ob cm om next Pp pc A n c T tc l) :
    Calls Tryz.prog 37 #[.pointer (some ⟨gr, 0, none⟩)] w (fun e w' => e = .returned (.tuple #[]) ∧ Ch bk w w' ∧ ∃ T' tc', Gr w' gr bk al df nm ob cm om next Pp pc A n c T' tc' l) := by
  have hmf : ∀ (fn : Fn) (first cap : Array Value) (w : World), (Instr.makeFunc fn first cap).run Tryz.prog w = .ok (.func fn first cap) w := fun _ _ _ _ => rfl
  have hms : ∀ u : World, (Instr.makeSlice 76 (.int .i64 0) (.int .i64 0)).run Tryz.prog u = .ok (.slice (some ⟨u.heap.size, 0, none⟩) 0 0) (u.alloc (.cells #[] 84)) := fun u => by kernel_rfl
  have hbl := blocks_any w gr bk tc T (cell_of h.g) (cell_of h.b)
  have H := Lib.hid h
  have hn12 : n ≤ 12 := h.small
  clear h
  go_enter Tryz.func37, Tryz.ntmps37
  go_wp2_with (first
    | (go_at_call 38; refine hbl.mono ?_; rintro e w1 ⟨l1, r, cr, rfl, x1, hr1⟩; have G1 := Lib.hid (H.out.low l1); have X1 := Lib.hid x1; have L1 := Lib.hid l1; clear l1 x1))
  go_loopw [14] (fun i wr => (i = .int .i64 0 ∧ wr = w1) ∨ (i = .int .i64 1 ∧ Ch bk w wr ∧ ∃ T' tc', Gr wr gr bk al df nm ob cm om next Pp pc A n c T' tc' l)) (fun i _ => 1 - (intOf i).toNat)
  case atStart => exact .inl ⟨rfl, rfl⟩
  case round =>
    rcases hrel with ⟨rfl, rfl⟩ | ⟨rfl, hch, T', tc', hG⟩
    · have x1 := X1.out
      have b1 : wr.cell? ⟨bk, 1, none⟩ = some (.slice A n c) := cell_of G1.out.b
      have hng : n ≤ 12 := hn12
      go_wp2_with fail
      obtain ⟨w1, rfl⟩ : ∃ u, u = wr := ⟨_, rfl⟩
      go_loopw [23] (fun i wx => ∃ q : Nat, i = .int .i64 q ∧ q ≤ n ∧ Low w1.heap.size w1 wx) (fun i _ => n - (intOf i).toNat)
      case atStart => exact ⟨0, rfl, by omega, Low.refl _ _⟩
      case round =>
        obtain ⟨wv, rfl⟩ : ∃ u, u = wr := ⟨_, rfl⟩
        obtain ⟨q, rfl, hq, hL⟩ := hrel
        have gv := G1.out.low hL
        have y1 : wv.cell? ⟨bk, 1, none⟩ = some (.slice A n c) := cell_of gv.b
        by_cases hlt : q < n
        · have hlt' : (q : Int) < (n : Int) := by omega
          have hq0 : (0 : Int) ≤ (q : Int) := by omega
          have hqn : (q : Int) ≤ 12 := by omega
          obtain ⟨o, ho⟩ : ∃ o, l[q]? = some o := ⟨_, List.getElem?_eq_getElem (by have := gv.ops.1; omega)⟩
          obtain ⟨g, cs, rfl, hnc, hg, k0, k1, k2, k3, k4, k5⟩ := gv.ops.2 q o ho
          have c0 : wv.cell? ⟨g, q * 6, none⟩ = some (.int .i64 o.code) := (cell_of hg).trans k0
          have c1 : wv.cell? ⟨g, q * 6 + 1, none⟩ = some (.int .i64 o.res) := (cell_of hg).trans k1
          have c2 : wv.cell? ⟨g, q * 6 + 2, none⟩ = some (.int .i64 0) := (cell_of hg).trans k2
          have c3 : wv.cell? ⟨g, q * 6 + 3, none⟩ = some (.int .i64 0) := (cell_of hg).trans k3
          have c4 : wv.cell? ⟨g, q * 6 + 4, none⟩ = some (.int .u16 o.n) := (cell_of hg).trans k4
          have c5 : wv.cell? ⟨g, q * 6 + 5, none⟩ = some (.slice none 0 0) := (cell_of hg).trans k5
          have hmap := mapOp_any (fun wx => Low wv.drew.heap.size wv.drew wx) wv.drew o 40 #[.pointer (some ⟨gr, 0, none⟩)] #[] (Inv.low _ _ (Nat.le_refl _)) (Low.refl _ _) (gv.ok o (List.mem_of_getElem? ho)).1 enters40 (find_keeps wv.drew gr al (cell_of gv.g) gv.al_)
          have hmap' : Calls Tryz.prog 35 #[.agg #[.int .i64 o.code, .int .i64 o.res, .int .i64 0, .int .i64 0, .int .u16 o.n, .slice none 0 0], .func (.func 40) #[.pointer (some ⟨gr, 0, none⟩)] #[]] wv.drew (fun e w' => ∃ v, e = .returned v ∧ (v = .agg #[.int .i64 o.code, .int .i64 o.res, .int .i64 0, .int .i64 0, .int .u16 o.n, .slice none 0 0] ∧ Low wv.heap.size wv.drew w')) := hmap.mono (fun e w' h => ⟨_, h.1, rfl, h.2⟩)
          have GV := Lib.hid gv; have HL := Lib.hid hL; have HG := Lib.hid hg; have K0 := Lib.hid k0; have K1 := Lib.hid k1; have K2 := Lib.hid k2; have K3 := Lib.hid k3; have K4 := Lib.hid k4; have K5 := Lib.hid k5
          clear gv hL hg k0 k1 k2 k3 k4 k5 hmap ho b1 x1
          go_upto_region 7 with fail
          go_region_law (first
            | (refine step_call rfl 35 #[.agg #[.int .i64 o.code, .int .i64 o.res, .int .i64 0, .int .i64 0, .int .u16 o.n, .slice none 0 0], .func (.func 40) #[.pointer (some ⟨gr, 0, none⟩)] #[]] (by go_simp) _ hmap' ?_; rintro v w6 ⟨rfl, l6⟩; have g6 := l6.obj (heap_lt HG.out) HG.out; have y6 : w6.cell? ⟨bk, 1, none⟩ = some (.slice (some ⟨g, 0, none⟩) n c) := cell_of (l6.obj (heap_lt GV.out.b) GV.out.b); have d0 : w6.cell? ⟨g, q * 6, none⟩ = some (.int .i64 o.code) := (cell_of g6).trans K0.out; have d1 : w6.cell? ⟨g, q * 6 + 1, none⟩ = some (.int .i64 o.res) := (cell_of g6).trans K1.out; have d2 : w6.cell? ⟨g, q * 6 + 2, none⟩ = some (.int .i64 0) := (cell_of g6).trans K2.out; have d3 : w6.cell? ⟨g, q * 6 + 3, none⟩ = some (.int .i64 0) := (cell_of g6).trans K3.out; have d4 : w6.cell? ⟨g, q * 6 + 4, none⟩ = some (.int .u16 o.n) := (cell_of g6).trans K4.out; have d5 : w6.cell? ⟨g, q * 6 + 5, none⟩ = some (.slice none 0 0) := (cell_of g6).trans K5.out; have f0 : w6.frozen? ⟨g, q * 6, none⟩ = false := free_of g6; have f1 : w6.frozen? ⟨g, q * 6 + 1, none⟩ = false := free_of g6; have f2 : w6.frozen? ⟨g, q * 6 + 2, none⟩ = false := free_of g6; have f3 : w6.frozen? ⟨g, q * 6 + 3, none⟩ = false := free_of g6; have f4 : w6.frozen? ⟨g, q * 6 + 4, none⟩ = false := free_of g6; have f5 : w6.frozen? ⟨g, q * 6 + 5, none⟩ = false := free_of g6; have HFIN := Lib.hid ((HL.out.trans ((Low.refl wv.heap.size wv).drew.mono HL.out.size)).trans ((l6.trans (six_same g6 K0.out K1.out K2.out K3.out K4.out K5.out _ rfl _)).mono HL.out.size)); clear g6 l6))
          all_goals (try go_wp2_with fail)
          all_goals exact ⟨⟨q + 1, rfl, hlt, HFIN.out⟩, by show n - ((q : Int) + 1).toNat < n - ((q : Int)).toNat; omega⟩
        · have hlt' : ¬ (q : Int) < (n : Int) := by omega
          have hrd := blockReads_any wv bk (cell_of gv.b) (cell_of gv.b)
          have GV := Lib.hid gv; have HL := Lib.hid hL
          clear gv hL b1 x1 y1
          go_upto_region 11 with (first
            | (go_at_call 47; refine hrd.mono ?_; rintro e w6 ⟨rfl, l6⟩; have g6 := GV.out.low l6; have y6 : w6.cell? ⟨bk, 4, none⟩ = some (.slice T 0 tc) := cell_of g6.b; have G6 := Lib.hid g6; have L6 := Lib.hid l6; clear g6 l6))
          have l7 : Low w6.heap.size w6 (w6.alloc (.cells #[] 84)) := (Low.refl _ _).alloc (Nat.le_refl _) _
          have g7 := G6.out.low l7
          have y7 : (w6.alloc (.cells #[] 84)).cell? ⟨bk, 4, none⟩ = some (.slice T 0 tc) := cell_of g7.b
          have f7 : (w6.alloc (.cells #[] 84)).frozen? ⟨bk, 4, none⟩ = false := free_of g7.b
          have G7 := Lib.hid g7
          have hfin : Hid (Ch bk w ((w6.alloc (.cells #[] 84)).setCell ⟨bk, 4, none⟩ (.slice (some ⟨w6.heap.size, 0, none⟩) 0 0)) ∧ Gr ((w6.alloc (.cells #[] 84)).setCell ⟨bk, 4, none⟩ (.slice (some ⟨w6.heap.size, 0, none⟩) 0 0)) gr bk al df nm ob cm om next Pp pc A n c (some ⟨w6.heap.size, 0, none⟩) 0 l) :=
            ⟨((((Ch.of_low L1.out).trans (Ch.of_low HL.out)).trans (Ch.of_low L6.out)).trans (Ch.of_low l7)).trans (Ch.set _ _), g7.edges⟩
          clear g7 l7
          go_wp2_with fail
          obtain ⟨w7, hw7⟩ : ∃ w7, w6.alloc (.cells #[] 84) = w7 := ⟨_, rfl⟩
          rw [hw7] at y7 f7 hfin ⊢
          clear hw7
          go_loopw [64] (fun i wx => i = .int .i64 0 ∧ wx = w7) (fun _ _ => 0)
          case atStart => exact ⟨rfl, rfl⟩
          case round =>
            obtain ⟨rfl, rfl⟩ := hrel
            go_wp2_with fail
            exact ⟨.inr ⟨rfl, hfin.out.1, _, _, hfin.out.2⟩, by decide⟩
    · go_wp2_with fail
      go_end0
      exact ⟨rfl, hch, T', tc', hG⟩
end Go.Proofs.YtnjdegjpmbdboaaGreat
/- The rules change none of the statement's operations. -/
namespace Go.Proofs.YtnjdegjpmbdboaaGreat
open Go.RowKit
set_option linter.unusedVariables false
set_option maxRecDepth 100000 in
set_option maxHeartbeats 1000000 in
theorem equalNil_any (w : World) (f : Value) : Calls Tryz.prog 78 #[.slice none 0 0, .slice none 0 0, f] w (fun e w' => e = .returned (.bool true) ∧ w' = w) := by
  go_enter Tryz.func78, Tryz.ntmps78
  go_wp2_with fail
  go_loopw [15] (fun i wr => i = .int .i64 0 ∧ wr = w) (fun _ _ => 0)
  case atStart => exact ⟨rfl, rfl⟩
  case round =>
    obtain ⟨rfl, rfl⟩ := hrel
    go_wp2_with fail
    go_ret
    exact ⟨rfl, rfl⟩
theorem low_two (w : World) (o o' : Obj) : Low w.heap.size w ((w.alloc o).alloc o') := ((Low.refl _ _).alloc (Nat.le_refl _) _).alloc (by simp) _
set_option maxRecDepth 100000 in
set_option maxHeartbeats 4000000 in
theorem sameOp_any (w : World) (o : Opn) : Calls Tryz.prog 41 #[.agg #[.int .i64 o.code, .int .i64 o.res, .int .i64 0, .int .i64 0, .int .u16 o.n, .slice none 0 0], .agg #[.int .i64 o.code, .int .i64 o.res, .int .i64 0, .int .i64 0, .int .u16 o.n, .slice none 0 0]] w (fun e w' => e = .returned (.bool true) ∧ Low w.heap.size w w') := by
  go_enter Tryz.func41, Tryz.ntmps41
  go_wp2_with (first
    | (go_at_call 78; refine (equalNil_any _ _).mono ?_; rintro e w3 ⟨rfl, he3⟩; rw [he3]; clear he3 w3))
  go_ret
  exact ⟨by simp, low_two _ _ _⟩
set_option maxRecDepth 100000 in
set_option maxHeartbeats 4000000 in
theorem twice_any (w : World) (gv : Value) (res n : Int) : Calls Tryz.prog 76 #[gv, .agg #[.int .i64 8, .int .i64 res, .int .i64 0, .int .i64 0, .int .u16 n, .slice none 0 0]] w (fun e w' => e = .returned (.int .i64 (-1)) ∧ Low w.heap.size w w') := by
  go_enter Tryz.func76, Tryz.ntmps76
  go_wp2_with fail
  go_ret
  exact ⟨rfl, (Low.refl _ _).alloc (Nat.le_refl _) _⟩
end Go.Proofs.YtnjdegjpmbdboaaGreat
namespace Go.Proofs.YtnjdegjpmbdboaaGreat
open Go.RowKit
set_option linter.unusedVariables false
theorem def_zero {w : World} {df : Nat} (h : DefOk w df) : (Instr.lookup 67 (.map (some df)) (.int .i64 0) true).run Tryz.prog w = .ok (.tuple #[.agg #[.int .i64 0, .int .i64 0, .int .i64 0, .int .i64 0, .int .u16 0, .slice none 0 0], .bool false]) w := by
  obtain ⟨m, hm, h0, _⟩ := h.zero
  have := lookup_i (P := Tryz.prog) (t := 67) Tryz.underlying67 Tryz.underlying3 hm (k := 0) (z := .agg #[.int .i64 0, .int .i64 0, .int .i64 0, .int .i64 0, .int .u16 0, .slice none 0 0]) (by kernel_rfl) true
  rw [h0] at this
  exact this
theorem num_none {w : World} {nm : Nat} (h : Empty w nm) (v : Value) : (Instr.lookup 68 (.map (some nm)) v true).run Tryz.prog w = .ok (.tuple #[.int .u16 0, .bool false]) w :=
  lookup_empty (P := Tryz.prog) (t := 68) Tryz.underlying68 plain3 h (z := .int .u16 0) (by kernel_rfl) true v
set_option maxRecDepth 100000 in
set_option maxHeartbeats 4000000 in
theorem single_any (w : World) (gr df : Nat) (res n : Int) (hg : w.cell? ⟨gr, 3, none⟩ = some (.map (some df))) (hd : DefOk w df) : Calls Tryz.prog 74 #[.pointer (some ⟨gr, 0, none⟩), .agg #[.int .i64 3, .int .i64 res, .int .i64 0, .int .i64 0, .int .u16 n, .slice none 0 0]] w (fun e w' => e = .returned (.tuple #[.agg #[.int .i64 3, .int .i64 res, .int .i64 0, .int .i64 0, .int .u16 n, .slice none 0 0], .int .i64 (-1)]) ∧ Low w.heap.size w w') := by
  have l2 := low_two w (.cells #[.int .i64 3, .int .i64 res, .int .i64 0, .int .i64 0, .int .u16 n, .slice none 0 0] 33) (.cells #[.int .i64 0, .int .i64 0, .int .i64 0, .int .i64 0, .int .u16 0, .slice none 0 0] 33)
  obtain ⟨S, hS⟩ : ∃ S, w.heap.size = S := ⟨_, rfl⟩
  obtain ⟨a1, s1, u1⟩ := alloc_at (.cells #[.int .i64 3, .int .i64 res, .int .i64 0, .int .i64 0, .int .u16 n, .slice none 0 0] 33) hS
  obtain ⟨a2, s2, u2⟩ := alloc_at (.cells #[.int .i64 0, .int .i64 0, .int .i64 0, .int .i64 0, .int .u16 0, .slice none 0 0] 33) s1
  have b2 := u2 _ _ a1
  have d2 := hd.low l2
  have g2 := (World.cell?_of_block (a := ⟨gr, 3, none⟩) (l2.block gr (cell_lt hg))).trans hg
  clear u1 u2 a1 s1 hd hg
  go_enter Tryz.func74, Tryz.ntmps74
  go_upto_region 1 with fail
  generalize (w.alloc (.cells #[.int .i64 3, .int .i64 res, .int .i64 0, .int .i64 0, .int .u16 n, .slice none 0 0] 33)).alloc (.cells #[.int .i64 0, .int .i64 0, .int .i64 0, .int .i64 0, .int .u16 0, .slice none 0 0] 33) = w2 at l2 b2 d2 g2 a2 s2 ⊢
  have hl := def_zero (w := w2.drew) d2
  have hl2 := def_zero (w := (w2.alloc (.cells #[.int .i64 0, .int .i64 0, .int .i64 0, .int .i64 0, .int .u16 0, .slice none 0 0] 33)).drew) (d2.low ((Low.refl _ w2).alloc (Nat.le_refl _) _).drew)
  have hgr2 : gr < w2.heap.size := cell_lt g2
  have c0 : w2.cell? ⟨S, 0, none⟩ = some (.int .i64 3) := cell_of b2
  have c2 : w2.cell? ⟨S, 2, none⟩ = some (.int .i64 0) := cell_of b2
  have g2a : (w2.alloc (.cells #[.int .i64 0, .int .i64 0, .int .i64 0, .int .i64 0, .int .u16 0, .slice none 0 0] 33)).cell? ⟨gr, 3, none⟩ = some (.map (some df)) := (World.cell?_alloc_lt w2 _ ⟨gr, 3, none⟩ hgr2).trans g2
  have hbA := heap_old (.cells #[.int .i64 0, .int .i64 0, .int .i64 0, .int .i64 0, .int .u16 0, .slice none 0 0] 33) b2
  have haA := heap_old (.cells #[.int .i64 0, .int .i64 0, .int .i64 0, .int .i64 0, .int .u16 0, .slice none 0 0] 33) a2
  have c2a : (w2.alloc (.cells #[.int .i64 0, .int .i64 0, .int .i64 0, .int .i64 0, .int .u16 0, .slice none 0 0] 33)).cell? ⟨S, 2, none⟩ = some (.int .i64 0) := cell_of hbA
  have lA : Low w.heap.size w (w2.alloc (.cells #[.int .i64 0, .int .i64 0, .int .i64 0, .int .i64 0, .int .u16 0, .slice none 0 0] 33)).drew := (l2.trans (((Low.refl w2.heap.size w2).alloc (Nat.le_refl _) _).mono l2.size)).drew
  have HW : Hid (∀ w3, (w2.alloc (.cells #[.int .i64 0, .int .i64 0, .int .i64 0, .int .i64 0, .int .u16 0, .slice none 0 0] 33)).drew = w3 → w3.heap[S]? = some (.cells #[.int .i64 3, .int .i64 res, .int .i64 0, .int .i64 0, .int .u16 n, .slice none 0 0] 33) ∧ w3.heap[S + 1]? = some (.cells #[.int .i64 0, .int .i64 0, .int .i64 0, .int .i64 0, .int .u16 0, .slice none 0 0] 33) ∧ w3.heap[S + 1 + 1]? = some (.cells #[.int .i64 0, .int .i64 0, .int .i64 0, .int .i64 0, .int .u16 0, .slice none 0 0] 33) ∧ Low w.heap.size w w3) := Lib.hid (by
    rintro w3 rfl
    exact ⟨hbA, haA, by have := heap_new w2 (.cells #[.int .i64 0, .int .i64 0, .int .i64 0, .int .i64 0, .int .u16 0, .slice none 0 0] 33); rw [s2] at this; exact this, (l2.trans (((Low.refl w2.heap.size w2).alloc (Nat.le_refl _) _).mono l2.size)).drew⟩)
  clear hbA haA b2 a2 d2 l2
  go_region_law (fail)
  all_goals clear c0 c2 c2a hl hl2 g2 g2a hgr2 s2
  all_goals
    generalize hw3 : (w2.alloc (.cells #[.int .i64 0, .int .i64 0, .int .i64 0, .int .i64 0, .int .u16 0, .slice none 0 0] 33)).drew = w3
    obtain ⟨hb, ha, he, hl⟩ := HW.out w3 hw3
    clear hw3 HW
    have x0 : w3.cell? ⟨S, 0, none⟩ = some (.int .i64 3) := cell_of hb
    have x1 : w3.cell? ⟨S, 1, none⟩ = some (.int .i64 res) := cell_of hb
    have x2 : w3.cell? ⟨S, 2, none⟩ = some (.int .i64 0) := cell_of hb
    have x3 : w3.cell? ⟨S, 3, none⟩ = some (.int .i64 0) := cell_of hb
    have x4 : w3.cell? ⟨S, 4, none⟩ = some (.int .u16 n) := cell_of hb
    have x5 : w3.cell? ⟨S, 5, none⟩ = some (.slice none 0 0) := cell_of hb
    have y0 : w3.cell? ⟨S + 1, 0, none⟩ = some (.int .i64 0) := cell_of ha
    have fw0 : w3.frozen? ⟨S + 1, 0, none⟩ = false := free_of ha
    have y1 : w3.cell? ⟨S + 1, 1, none⟩ = some (.int .i64 0) := cell_of ha
    have fw1 : w3.frozen? ⟨S + 1, 1, none⟩ = false := free_of ha
    have y2 : w3.cell? ⟨S + 1, 2, none⟩ = some (.int .i64 0) := cell_of ha
    have fw2 : w3.frozen? ⟨S + 1, 2, none⟩ = false := free_of ha
    have y3 : w3.cell? ⟨S + 1, 3, none⟩ = some (.int .i64 0) := cell_of ha
    have fw3 : w3.frozen? ⟨S + 1, 3, none⟩ = false := free_of ha
    have y4 : w3.cell? ⟨S + 1, 4, none⟩ = some (.int .u16 0) := cell_of ha
    have fw4 : w3.frozen? ⟨S + 1, 4, none⟩ = false := free_of ha
    have y5 : w3.cell? ⟨S + 1, 5, none⟩ = some (.slice none 0 0) := cell_of ha
    have fw5 : w3.frozen? ⟨S + 1, 5, none⟩ = false := free_of ha
    have e0 : w3.cell? ⟨S + 1 + 1, 0, none⟩ = some (.int .i64 0) := cell_of he
    have HAA := Lib.hid ha; have LA := Lib.hid hl
    clear ha hb he hl
    go_wp2_with fail
    have hfin := six_sets (v0 := .int .i64 3) (v1 := .int .i64 res) (v2 := .int .i64 0) (v3 := .int .i64 0) (v4 := .int .u16 n) (v5 := .slice none 0 0) (w := w3) HAA.out _ rfl
    clear x0 x1 x2 x3 x4 x5 y0 y1 y2 y3 y4 y5 fw0 fw1 fw2 fw3 fw4 fw5
    generalize World.setCell _ _ _ = wF at hfin ⊢
    obtain ⟨hz, _, _, hIF⟩ := hfin
    have x0 : wF.cell? ⟨S + 1, 0, none⟩ = some (.int .i64 3) := cell_of hz
    have x1 : wF.cell? ⟨S + 1, 1, none⟩ = some (.int .i64 res) := cell_of hz
    have x2 : wF.cell? ⟨S + 1, 2, none⟩ = some (.int .i64 0) := cell_of hz
    have x3 : wF.cell? ⟨S + 1, 3, none⟩ = some (.int .i64 0) := cell_of hz
    have x4 : wF.cell? ⟨S + 1, 4, none⟩ = some (.int .u16 n) := cell_of hz
    have x5 : wF.cell? ⟨S + 1, 5, none⟩ = some (.slice none 0 0) := cell_of hz
    refine bodyPost_ret (v := .tuple #[.agg #[.int .i64 3, .int .i64 res, .int .i64 0, .int .i64 0, .int .u16 n, .slice none 0 0], .int .i64 (-1)]) (by simp [results, Tryz.results74, go_sem, x0, x1, x2, x3, x4, x5]; done) rfl ?_
    exact ⟨rfl, hIF w.heap.size (fun x => Low w.heap.size w x) (Inv.low _ _ (Nat.le_refl _)) (by omega) LA.out⟩
end Go.Proofs.YtnjdegjpmbdboaaGreat
