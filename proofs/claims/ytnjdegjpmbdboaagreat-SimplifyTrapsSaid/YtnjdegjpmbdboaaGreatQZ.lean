/- Simplify, where wellFormed says yes. -/
import Derived.Test.YtnjdegjpmbdboaaGreatQY
namespace Go.Proofs.YtnjdegjpmbdboaaGreat
open Go.RowKit
set_option linter.unusedVariables false
/-- What stands in Simplify's loop. -/
structure SI (w wx : World) (t2 rs gr bk al df nm ob cm om : Nat) (next : Int) (Pp : Option Addr) (pc : Nat) (A : Option Addr) (n c : Nat) (T : Option Addr) (tc : Nat) (l : List Opn) : Prop where
  lo : Low w.heap.size w wx
  f2 : wx.heap[t2]? = some (.cells #[.slice none 0 0] 39 (0, 0))
  fr : wx.heap[rs]? = some (.cells #[.func (.func 14) #[.pointer (some ⟨gr, 0, none⟩)] #[], .func (.func 15) #[.pointer (some ⟨gr, 0, none⟩)] #[], .func (.func 16) #[.pointer (some ⟨gr, 0, none⟩)] #[], .func (.func 17) #[.pointer (some ⟨gr, 0, none⟩)] #[], .func (.func 18) #[.pointer (some ⟨gr, 0, none⟩)] #[], .func (.func 19) #[.pointer (some ⟨gr, 0, none⟩)] #[]] 23 (0, 0))
  par : ParAt wx Pp pc
  g : Gr wx gr bk al df nm ob cm om next Pp pc A n c T tc l
section
variable {w wx wy : World} {t2 rs gr bk al df nm ob cm om : Nat} {next : Int} {Pp : Option Addr} {pc : Nat} {A A' : Option Addr} {n c n' c' : Nat} {T T' : Option Addr} {tc tc' : Nat} {l l' : List Opn}
theorem SI.step (h : SI w wx t2 rs gr bk al df nm ob cm om next Pp pc A n c T tc l) (hbk : w.heap.size ≤ bk) (hdf : w.heap.size ≤ df) (hc : Chs [bk, df] wx wy) (hg : Gr wy gr bk al df nm ob cm om next Pp pc A' n' c' T' tc' l') : SI w wy t2 rs gr bk al df nm ob cm om next Pp pc A' n' c' T' tc' l' := by
  have hno : ∀ {b : Nat} {cs : Array Value} {e : TypeId} {fr : Nat × Nat}, wx.heap[b]? = some (.cells cs e fr) → e ≠ 78 → b ∉ [bk, df] := fun {b cs e fr} hq he hm => by
    simp only [List.mem_cons, List.not_mem_nil, or_false] at hm
    rcases hm with rfl | rfl
    · have h1 := h.g.b
      rw [hq] at h1
      cases h1
      exact he rfl
    · obtain ⟨m, ⟨es, cl, hm, _⟩, _⟩ := h.g.df_
      rw [hq] at hm; cases hm
  exact ⟨h.lo.trans (hc.low (by intro b hb; simp only [List.mem_cons, List.not_mem_nil, or_false] at hb; rcases hb with rfl | rfl <;> assumption) h.lo.size), hc.obj h.f2 (hno h.f2 (by decide)), hc.obj h.fr (hno h.fr (by decide)), h.par.chs hc (fun b hb cs hb2 => hno hb2 (by decide) hb), hg⟩
theorem SI.low (h : SI w wx t2 rs gr bk al df nm ob cm om next Pp pc A n c T tc l) (hl : Low wx.heap.size wx wy) : SI w wy t2 rs gr bk al df nm ob cm om next Pp pc A n c T tc l :=
  ⟨h.lo.trans (hl.mono h.lo.size), hl.some h.f2, hl.some h.fr, h.par.low hl, h.g.low hl⟩
end
theorem kept_kept (l : List Opn) : kept (kept l) = kept l := by
  unfold kept
  rw [List.filter_filter]
  congr 1
  funext o
  simp
/-- How many operations the block has. -/
def opsLen (bk : Nat) (w : World) : Nat :=
  match w.cell? ⟨bk, 1, none⟩ with
  | some (.slice _ n _) => n
  | _ => 0
theorem opsLen_of {w : World} {gr bk al df nm ob cm om : Nat} {next : Int} {Pp : Option Addr} {pc : Nat} {A : Option Addr} {n c : Nat} {T : Option Addr} {tc : Nat} {l : List Opn} (h : Gr w gr bk al df nm ob cm om next Pp pc A n c T tc l) : opsLen bk w = n := by
  unfold opsLen
  rw [cell_of h.b]
  rfl
def stepMeas (bk : Nat) : Value → World → Nat
  | .bool true, w => 1 + opsLen bk w
  | _, _ => 0
set_option maxRecDepth 100000 in
set_option maxHeartbeats 8000000 in
theorem simplify_of (w : World) (g cg : Nat) (Pp : Option Addr) (pc : Nat) (A : Option Addr) (n c : Nat) (T : Option Addr) (tc : Nat) (l : List Opn) (h : FnAt w g Pp pc A n c T tc l)
    (hwf : ∀ u, Low w.heap.size w u → Calls Tryz.prog 10 #[.agg #[.slice (some ⟨g, 0, none⟩) 1 cg]] u (fun e w' => e = .returned (.bool true) ∧ Low u.heap.size u w')) :
    Calls Tryz.prog 7 #[.agg #[.slice (some ⟨g, 0, none⟩) 1 cg]] w (fun e w' => Low w.heap.size w w' ∧ ∃ g' cr Pp' pc' A' n' c' T' tc', e = .returned (.agg #[.slice (some ⟨g', 0, none⟩) 1 cr]) ∧ 1 ≤ cr ∧ FnAt w' g' Pp' pc' A' n' c' T' tc' (renum (kept (renum l 1)) 1)) := by
  have hmf : ∀ (fn : Fn) (first cap : Array Value) (w : World), (Instr.makeFunc fn first cap).run Tryz.prog w = .ok (.func fn first cap) w := fun _ _ _ _ => rfl
  have H := Lib.hid h
  have HWF := Lib.hid hwf
  have hn12 : n ≤ 12 := h.small
  clear h hwf
  obtain ⟨S, hS⟩ : ∃ S, w.heap.size = S := ⟨_, rfl⟩
  obtain ⟨a1, s1, u1⟩ := alloc_at (.cells #[.slice (some ⟨g, 0, none⟩) 1 cg] 39) hS
  obtain ⟨a2, s2, u2⟩ := alloc_at (.cells #[.slice none 0 0] 39) s1
  have l2 : Low w.heap.size w ((w.alloc (.cells #[.slice (some ⟨g, 0, none⟩) 1 cg] 39)).alloc (.cells #[.slice none 0 0] 39)) := ((Low.refl _ w).alloc (Nat.le_refl _) _).alloc (by omega) _
  have b1 := u2 _ _ a1
  have HS := Lib.hid hS
  clear u1 u2 a1 s1 s2
  go_enter Tryz.func7, Tryz.ntmps7
  go_upto_region 1 with fail
  clear hS
  obtain ⟨t2, ht2⟩ : ∃ t, t = S + 1 := ⟨_, rfl⟩
  have HT2 := Lib.hid ht2
  rw [← ht2] at a2 ⊢
  clear ht2
  generalize (w.alloc (.cells #[.slice (some ⟨g, 0, none⟩) 1 cg] 39)).alloc (.cells #[.slice none 0 0] 39) = w1 at b1 a2 l2 ⊢
  have y1 : w1.cell? ⟨S, 0, none⟩ = some (.slice (some ⟨g, 0, none⟩) 1 cg) := cell_of b1
  have hw := HWF.out w1 l2
  have L1 := Lib.hid l2; have B1 := Lib.hid b1; have A1 := Lib.hid a2
  clear l2 b1 a2
  go_upto_region 3 with (first
    | (go_at_call 10; with_reducible refine hw.mono ?_; rintro e w2 ⟨rfl, l2⟩; have L2 := Lib.hid (L1.out.trans (l2.mono L1.out.size)); have B2 := Lib.hid (l2.some B1.out); have A2 := Lib.hid (l2.some A1.out); clear l2))
  have y2 : w2.cell? ⟨S, 0, none⟩ = some (.slice (some ⟨g, 0, none⟩) 1 cg) := cell_of B2.out
  have hcan := canon_any w2 g cg Pp pc A n c T tc l (H.out.low L2.out)
  clear y1 hw L1 B1 A1 HWF
  go_upto_region 4 with (first
    | (go_at_call 13; with_reducible refine hcan.mono ?_; rintro e w3 ⟨l3, g1, cr1, Pp1, pc1, A1, c1, rfl, hcr1, hF1⟩; have hld := load_any w3 g1 cr1 Pp1 pc1 A1 n c1 none 0 (renum l 1) hF1; have L3 := Lib.hid (L2.out.trans (l3.mono L2.out.size)); have A3 := Lib.hid (l3.some A2.out); clear l3 hF1 y2 B2)
    | (go_at_call 12; with_reducible refine hld.mono ?_; rintro e w4 ⟨l4, gr, bk, al, df, nm, ob, cm, om, next, A2', c2, rfl, hbk, hdf, hpar, hgr⟩; have L4 := Lib.hid (L3.out.trans (l4.mono L3.out.size)); have A4 := Lib.hid (l4.some A3.out); have HGR := Lib.hid hgr; have HPAR := Lib.hid hpar; have HBK := Lib.hid (Nat.le_trans L3.out.size hbk); have HDF := Lib.hid (Nat.le_trans L3.out.size hdf); clear l4 hld hbk hdf hpar hgr))
  have l5 : Low w4.heap.size w4 (w4.alloc (.cells #[.func (.func 14) #[.pointer (some ⟨gr, 0, none⟩)] #[], .func (.func 15) #[.pointer (some ⟨gr, 0, none⟩)] #[], .func (.func 16) #[.pointer (some ⟨gr, 0, none⟩)] #[], .func (.func 17) #[.pointer (some ⟨gr, 0, none⟩)] #[], .func (.func 18) #[.pointer (some ⟨gr, 0, none⟩)] #[], .func (.func 19) #[.pointer (some ⟨gr, 0, none⟩)] #[]] 23)) := (Low.refl _ _).alloc (Nat.le_refl _) _
  have a5 := heap_new w4 (.cells #[.func (.func 14) #[.pointer (some ⟨gr, 0, none⟩)] #[], .func (.func 15) #[.pointer (some ⟨gr, 0, none⟩)] #[], .func (.func 16) #[.pointer (some ⟨gr, 0, none⟩)] #[], .func (.func 17) #[.pointer (some ⟨gr, 0, none⟩)] #[], .func (.func 18) #[.pointer (some ⟨gr, 0, none⟩)] #[], .func (.func 19) #[.pointer (some ⟨gr, 0, none⟩)] #[]] 23)
  obtain ⟨rs, hrs⟩ : ∃ t, t = w4.heap.size := ⟨_, rfl⟩
  rw [← hrs] at a5
  have SI5 : Hid (SI w (w4.alloc (.cells #[.func (.func 14) #[.pointer (some ⟨gr, 0, none⟩)] #[], .func (.func 15) #[.pointer (some ⟨gr, 0, none⟩)] #[], .func (.func 16) #[.pointer (some ⟨gr, 0, none⟩)] #[], .func (.func 17) #[.pointer (some ⟨gr, 0, none⟩)] #[], .func (.func 18) #[.pointer (some ⟨gr, 0, none⟩)] #[], .func (.func 19) #[.pointer (some ⟨gr, 0, none⟩)] #[]] 23)) t2 rs gr bk al df nm ob cm om next Pp1 pc1 A2' n c2 none 0 (renum l 1)) := Lib.hid ⟨L4.out.trans (l5.mono L4.out.size), l5.some A4.out, a5, HPAR.out.low l5, HGR.out.low l5⟩
  clear l5 a5
  go_upto_region 5 with fail
  rw [← hrs]
  clear hrs
  generalize w4.alloc (.cells #[.func (.func 14) #[.pointer (some ⟨gr, 0, none⟩)] #[], .func (.func 15) #[.pointer (some ⟨gr, 0, none⟩)] #[], .func (.func 16) #[.pointer (some ⟨gr, 0, none⟩)] #[], .func (.func 17) #[.pointer (some ⟨gr, 0, none⟩)] #[], .func (.func 18) #[.pointer (some ⟨gr, 0, none⟩)] #[], .func (.func 19) #[.pointer (some ⟨gr, 0, none⟩)] #[]] 23) = w5 at SI5 ⊢
  go_wp2_with fail
  go_loopw [5] (fun b wr => ∃ A' n' c' T' tc' l1, SI w wr t2 rs gr bk al df nm ob cm om next Pp1 pc1 A' n' c' T' tc' l1 ∧ ((b = .bool true ∧ (l1 = renum l 1 ∨ l1 = kept (renum l 1))) ∨ (b = .bool false ∧ l1 = kept (renum l 1)))) (fun b wr => stepMeas bk b wr)
  case atStart => exact ⟨_, _, _, _, _, _, SI5.out, .inl ⟨rfl, .inl rfl⟩⟩
  case round =>
    obtain ⟨wr, rfl⟩ : ∃ u, u = wr := ⟨_, rfl⟩
    obtain ⟨A', n', c', T', tc', l1, hsi, ⟨rfl, hl1⟩ | ⟨rfl, rfl⟩⟩ := hrel
    · have hmeas : Hid (stepMeas bk (.bool true) wr = 1 + n') := Lib.hid (by show 1 + opsLen bk wr = _; rw [opsLen_of hsi.g])
      have HSI := Lib.hid hsi
      have HL1 := Lib.hid hl1
      clear hsi hl1
      go_wp2_with fail
      go_loopw [32, 5] (fun i b wx => ∃ (q : Nat) (A'' : Option Addr) (n'' c'' : Nat) (T'' : Option Addr) (tc'' : Nat) (l2 : List Opn), i = .int .i64 q ∧ q ≤ 6 ∧ SI w wx t2 rs gr bk al df nm ob cm om next Pp1 pc1 A'' n'' c'' T'' tc'' l2 ∧ ((q < 6 ∧ b = .bool false ∧ l2 = l1 ∧ n'' = n') ∨ (q = 6 ∧ b = .bool (decide (n'' < n')) ∧ l2 = kept l1))) (fun i _ _ => 6 - (intOf i).toNat)
      case atStart => exact ⟨0, _, _, _, _, _, _, rfl, by omega, HSI.out, .inl ⟨by omega, rfl, rfl, rfl⟩⟩
      case round =>
        obtain ⟨wx, rfl⟩ : ∃ u, u = wr := ⟨_, rfl⟩
        obtain ⟨q, A'', n'', c'', T'', tc'', l2, rfl, hq, hsi, hst⟩ := hrel
        have hfr := hsi.fr
        rcases hst with ⟨hq6, rfl, rfl, rfl⟩ | ⟨rfl, rfl, rfl⟩
        · have hcases : q = 0 ∨ q = 1 ∨ q = 2 ∨ q = 3 ∨ q = 4 ∨ q = 5 := by omega
          have H2 := Lib.hid hsi
          rcases hcases with rfl | rfl | rfl | rfl | rfl | rfl
          · have yf : wx.cell? ⟨rs, 0, none⟩ = some (.func (.func 14) #[.pointer (some ⟨gr, 0, none⟩)] #[]) := cell_of hfr
            have hcl := fold_any wx gr bk al df nm ob cm om next Pp1 pc1 A'' n'' c'' T'' tc'' l2 hsi.g
            clear hsi hfr
            go_wp2_with (first
              | (go_at_call 14; with_reducible refine hcl.mono ?_; rintro e w7 ⟨rfl, hc, A3, c3, T3, tc3, hg3⟩)
              | (with_reducible refine hcl.mono ?_; rintro e w7 ⟨rfl, hc, A3, c3, T3, tc3, hg3⟩))
            exact ⟨⟨1, _, _, _, _, _, _, rfl, by omega, H2.out.step HBK.out HDF.out hc hg3, .inl ⟨by omega, rfl, rfl, rfl⟩⟩, by decide⟩
          · have yf : wx.cell? ⟨rs, 1, none⟩ = some (.func (.func 15) #[.pointer (some ⟨gr, 0, none⟩)] #[]) := cell_of hfr
            have hcl := merge_any wx gr bk al df nm ob cm om next Pp1 pc1 A'' n'' c'' T'' tc'' l2 hsi.g
            clear hsi hfr
            go_wp2_with (first
              | (go_at_call 15; with_reducible refine hcl.mono ?_; rintro e w7 ⟨rfl, hc, T3, tc3, hg3⟩)
              | (with_reducible refine hcl.mono ?_; rintro e w7 ⟨rfl, hc, T3, tc3, hg3⟩))
            exact ⟨⟨2, _, _, _, _, _, _, rfl, by omega, H2.out.step HBK.out HDF.out (hc.more (by simp)) hg3, .inl ⟨by omega, rfl, rfl, rfl⟩⟩, by decide⟩
          · have yf : wx.cell? ⟨rs, 2, none⟩ = some (.func (.func 16) #[.pointer (some ⟨gr, 0, none⟩)] #[]) := cell_of hfr
            have hcl := decide_any wx gr bk al df nm ob cm om next Pp1 pc1 A'' n'' c'' T'' tc'' l2 hsi.g
            clear hsi hfr
            go_wp2_with (first
              | (go_at_call 16; with_reducible refine hcl.mono ?_; rintro e w7 ⟨rfl, hl7⟩)
              | (with_reducible refine hcl.mono ?_; rintro e w7 ⟨rfl, hl7⟩))
            exact ⟨⟨3, _, _, _, _, _, _, rfl, by omega, H2.out.low hl7, .inl ⟨by omega, rfl, rfl, rfl⟩⟩, by decide⟩
          · have yf : wx.cell? ⟨rs, 3, none⟩ = some (.func (.func 17) #[.pointer (some ⟨gr, 0, none⟩)] #[]) := cell_of hfr
            have hcl := thread_any wx gr bk al df nm ob cm om next Pp1 pc1 A'' n'' c'' T'' tc'' l2 hsi.g
            clear hsi hfr
            go_wp2_with (first
              | (go_at_call 17; with_reducible refine hcl.mono ?_; rintro e w7 ⟨rfl, hl7⟩)
              | (with_reducible refine hcl.mono ?_; rintro e w7 ⟨rfl, hl7⟩))
            exact ⟨⟨4, _, _, _, _, _, _, rfl, by omega, H2.out.low hl7, .inl ⟨by omega, rfl, rfl, rfl⟩⟩, by decide⟩
          · have yf : wx.cell? ⟨rs, 4, none⟩ = some (.func (.func 18) #[.pointer (some ⟨gr, 0, none⟩)] #[]) := cell_of hfr
            have hcl := join_any wx gr bk al df nm ob cm om next Pp1 pc1 A'' n'' c'' T'' tc'' l2 hsi.g
            clear hsi hfr
            go_wp2_with (first
              | (go_at_call 18; with_reducible refine hcl.mono ?_; rintro e w7 ⟨rfl, hl7⟩)
              | (with_reducible refine hcl.mono ?_; rintro e w7 ⟨rfl, hl7⟩))
            exact ⟨⟨5, _, _, _, _, _, _, rfl, by omega, H2.out.low hl7, .inl ⟨by omega, rfl, rfl, rfl⟩⟩, by decide⟩
          · have yf : wx.cell? ⟨rs, 5, none⟩ = some (.func (.func 19) #[.pointer (some ⟨gr, 0, none⟩)] #[]) := cell_of hfr
            have hcl := sweep_any wx gr bk al df nm ob cm om next Pp1 pc1 A'' n'' c'' T'' tc'' l2 hsi.g
            clear hsi hfr
            go_upto_if 37 with (first
              | (go_at_call 19; with_reducible refine hcl.mono ?_; rintro e w7 ⟨A3, n3, c3, rfl, hc, hg3⟩)
              | (with_reducible refine hcl.mono ?_; rintro e w7 ⟨A3, n3, c3, rfl, hc, hg3⟩))
            have HS7 := Lib.hid (H2.out.step HBK.out HDF.out (hc.more (by simp)) hg3)
            clear hc hg3
            by_cases hlt : n3 < n''
            · have hd : decide (n3 < n'') = true := by simp [hlt]
              have HD := Lib.hid hd
              clear hd
              go_wp2_with fail
              exact ⟨⟨6, _, _, _, _, _, _, rfl, by omega, HS7.out, .inr ⟨rfl, by rw [HD.out], rfl⟩⟩, by decide⟩
            · have hd : decide (n3 < n'') = false := by simp [hlt]
              have HD := Lib.hid hd
              clear hd
              go_wp2_with fail
              exact ⟨⟨6, _, _, _, _, _, _, rfl, by omega, HS7.out, .inr ⟨rfl, by rw [HD.out], rfl⟩⟩, by decide⟩
        · have HK : Hid (kept l1 = kept (renum l 1)) := Lib.hid (by
            rcases HL1.out with h | h
            · rw [h]
            · rw [h, kept_kept])
          have H2 := Lib.hid hsi
          have hm2 : Hid (opsLen bk wx = n'') := Lib.hid (opsLen_of hsi.g)
          clear hsi hfr
          by_cases hlt : n'' < n'
          · have hd : decide (n'' < n') = true := by simp [hlt]
            have HD := Lib.hid hd
            have HLT := Lib.hid hlt
            rw [hd]
            clear hd hlt
            go_wp2_with fail
            exact ⟨⟨_, _, _, _, _, _, H2.out, .inl ⟨rfl, .inr HK.out⟩⟩, by
              show stepMeas bk (.bool true) wx < stepMeas bk (.bool true) _
              rw [hmeas.out]
              show 1 + opsLen bk wx < 1 + n'
              rw [hm2.out]
              have := HLT.out
              omega⟩
          · have hd : decide (n'' < n') = false := by simp [hlt]
            rw [hd]
            clear hd hlt
            go_wp2_with fail
            exact ⟨⟨_, _, _, _, _, _, H2.out, .inr ⟨rfl, HK.out⟩⟩, by
              show stepMeas bk (.bool false) wx < stepMeas bk (.bool true) _
              rw [hmeas.out]
              show 0 < 1 + n'
              omega⟩
    · have hfn := function_any wr gr bk al df nm ob cm om next Pp1 pc1 A' n' c' T' tc' (kept (renum l 1)) hsi.g hsi.par
      have H2 := Lib.hid hsi
      have H2B : Hid (t2 ∉ [bk]) := Lib.hid (by
        intro hm
        rw [List.mem_singleton] at hm
        have h1 := hsi.g.b
        rw [← hm, hsi.f2] at h1
        cases h1)
      clear hsi
      go_wp2_with (first
        | (go_at_call 21; with_reducible refine hfn.mono ?_; rintro e w7 ⟨hc7, g7, cr7, A7, c7, T7, tc7, rfl, hcr7, hF7⟩; have hcan7 := canon_any w7 g7 cr7 Pp1 pc1 A7 n' c7 T7 tc7 (kept (renum l 1)) hF7; have HC7 := Lib.hid hc7; clear hc7 hF7)
        | (go_at_call 13; with_reducible refine hcan7.mono ?_; rintro e w8 ⟨l8, g8, cr8, Pp8, pc8, A8, c8, rfl, hcr8, hF8⟩; have hord := ordered_any w8 g8 cr8 Pp8 pc8 A8 n' c8 none 0 (renum (kept (renum l 1)) 1) hF8; have L8 := Lib.hid l8; have F8 := Lib.hid hF8; clear l8 hF8 hcan7)
        | (go_at_call 20; with_reducible refine hord.mono ?_; rintro e w9 ⟨l9, rfl⟩; have C9 := Lib.hid ((HC7.out.tail (Low.mono L8.out HC7.out.size)).tail (Low.mono l9 (Nat.le_trans HC7.out.size L8.out.size))); have F9 := Lib.hid (F8.out.low l9); have hb2 := C9.out.obj H2.out.f2 H2B.out; have y2 : w9.cell? ⟨t2, 0, none⟩ = some (.slice none 0 0) := cell_of hb2; have f2 : w9.frozen? ⟨t2, 0, none⟩ = false := free_of hb2; have HB2 := Lib.hid hb2; clear l9 hb2 hord))
      have e2' : (w9.setCell ⟨t2, 0, none⟩ (.slice (some ⟨g8, 0, none⟩) 1 cr8)).cell? ⟨t2, 0, none⟩ = some (.slice (some ⟨g8, 0, none⟩) 1 cr8) := cell_of (set_blk HB2.out)
      refine bodyPost_ret (v := .agg #[.slice (some ⟨g8, 0, none⟩) 1 cr8]) (by simp [results, Tryz.results7, go_sem, e2']; done) rfl ?_
      have hL9 : Low w.heap.size w w9 := H2.out.lo.trans (C9.out.low (by intro b hb; rw [List.mem_singleton] at hb; subst hb; exact HBK.out) H2.out.lo.size)
      have cZ : Chs [t2] w9 (w9.setCell ⟨t2, 0, none⟩ (.slice (some ⟨g8, 0, none⟩) 1 cr8)) := Chs.setCell _ (List.mem_singleton.2 rfl) _
      have hno : ∀ {b : Nat} {cs : Array Value} {e : TypeId} {fr : Nat × Nat}, w9.heap[b]? = some (.cells cs e fr) → e ≠ 39 → b ∉ [t2] := fun {b cs e fr} hb he hm => by
        rw [List.mem_singleton] at hm
        subst hm
        rw [HB2.out] at hb
        cases hb
        exact he rfl
      obtain ⟨cs3, r0, r1⟩ := F9.out.row
      exact ⟨hL9.setCell (by have := HT2.out; have := HS.out; omega) _, g8, cr8, Pp8, pc8, A8, n', c8, none, 0, rfl, hcr8, ⟨cs3, cZ.obj r0 (hno r0 (by decide)), r1⟩, F9.out.ops.chs cZ (fun b cs hb => hno hb (by decide)), F9.out.par.chs cZ (fun b hb cs hb2 => hno hb2 (by decide) hb), F9.out.ok, F9.out.small, F9.out.inc⟩
end Go.Proofs.YtnjdegjpmbdboaaGreat
