/- wellFormed of a function of one block. -/
import Derived.Test.YtnjdegjpmbdboaaGreatRM
import Derived.Test.YtnjdegjpmbdboaaGreatRP
import Derived.Test.YtnjdegjpmbdboaaGreatRR
namespace Go.Proofs.YtnjdegjpmbdboaaGreat
open Go.RowKit
set_option linter.unusedVariables false
set_option maxRecDepth 100000 in
set_option maxHeartbeats 32000000 in
theorem wellformed_any (w : World) (g cg : Nat) (Pp : Option Addr) (pc : Nat) (A : Option Addr) (n c : Nat) (T : Option Addr) (tc : Nat) (l : List Opn) (h : FnAt w g Pp pc A n c T tc l) (hN : ∀ o ∈ l, NOk o) (hres : ∀ o ∈ l, o.res ≤ 65535) :
    Calls Tryz.prog 10 #[.agg #[.slice (some ⟨g, 0, none⟩) 1 cg]] w (fun e w' => e = .returned (.bool true) ∧ Low w.heap.size w w') := by
  have hm53 : ∀ u : World, (Instr.makeMap 53 none).run Tryz.prog u = .ok (.map (some u.heap.size)) (u.alloc (.map #[] 0)) := fun u => by kernel_rfl
  have hn12 : n ≤ 12 := h.small
  have H := Lib.hid h; have HN := Lib.hid hN; have HRES := Lib.hid hres
  have l1 : Low w.heap.size w (w.alloc (.cells #[.slice (some ⟨g, 0, none⟩) 1 cg] 39)) := (Low.refl _ w).alloc (Nat.le_refl _) _
  have a1 := heap_new w (.cells #[.slice (some ⟨g, 0, none⟩) 1 cg] 39)
  clear h hN hres
  go_enter Tryz.func10, Tryz.ntmps10
  go_upto_region 1 with fail
  obtain ⟨t1, ht1⟩ : ∃ t, t = w.heap.size := ⟨_, rfl⟩
  rw [← ht1] at a1 ⊢
  clear ht1
  generalize w.alloc (.cells #[.slice (some ⟨g, 0, none⟩) 1 cg] 39) = w1 at a1 l1 ⊢
  have l2 : Low w1.heap.size w1 (w1.alloc (.map #[] 0)) := (Low.refl _ w1).alloc (Nat.le_refl _) _
  have m2 : MapM (w1.alloc (.map #[] 0)) w1.heap.size 0 := heap_new w1 (.map #[] 0)
  have hcw := l1.size
  have L2 := Lib.hid (l1.trans (l2.mono l1.size)); have A2 := Lib.hid (l2.some a1)
  clear l1 l2 a1
  go_upto_region 2 with fail
  obtain ⟨cm, hcm⟩ : ∃ t, t = w1.heap.size := ⟨_, rfl⟩
  rw [← hcm] at m2 hcw ⊢
  clear hcm hm53
  generalize w1.alloc (.map #[] 0) = w2 at m2 L2 A2 ⊢
  have M2 := Lib.hid m2; have HCW := Lib.hid hcw
  have hmp : Maps w2 [cm] := fun b hb => by
    rw [List.mem_singleton] at hb
    subst hb
    exact ⟨_, _, m2⟩
  have MP := Lib.hid hmp
  clear m2 hcw hmp
  have y1 : w2.cell? ⟨t1, 0, none⟩ = some (.slice (some ⟨g, 0, none⟩) 1 cg) := cell_of A2.out
  go_wp2_with fail
  go_loopw [19, 5, 4] (fun i s z wr => z = .int .i64 0 ∧ ((i = .int .i64 0 ∧ s = .int .i64 (-1) ∧ wr = w2) ∨ (i = .int .i64 1 ∧ s = .int .i64 (((callM l : Nat) : Int) - 1) ∧ Chs [cm] w2 wr ∧ MapM wr cm (callM l)))) (fun i _ _ _ => 1 - (intOf i).toNat)
  case atStart => exact ⟨rfl, .inl ⟨rfl, rfl, rfl⟩⟩
  case round =>
    obtain ⟨rfl, ⟨rfl, rfl, rfl⟩ | ⟨rfl, rfl, hc, hm⟩⟩ := hrel
    · obtain ⟨w2, rfl⟩ : ∃ u, u = wr := ⟨_, rfl⟩
      have h2 := H.out.low L2.out
      obtain ⟨cs0, r0, r1, r2, r3, r4, r5⟩ := h2.row
      have p0 : w2.cell? ⟨g, 0, none⟩ = some (.slice Pp 1 pc) := (cell_of r0).trans r1
      have p1 : w2.cell? ⟨g, 1, none⟩ = some (.slice A n c) := (cell_of r0).trans r2
      have p2 : w2.cell? ⟨g, 2, none⟩ = some (.int .i64 4) := (cell_of r0).trans r3
      have p3 : w2.cell? ⟨g, 3, none⟩ = some (.int .i64 (-1)) := (cell_of r0).trans r4
      have p4 : w2.cell? ⟨g, 4, none⟩ = some (.slice T 0 tc) := (cell_of r0).trans r5
      have l3 : Low w2.heap.size w2 (w2.alloc (.cells #[.slice Pp 1 pc, .slice A n c, .int .i64 4, .int .i64 (-1), .slice T 0 tc] 29)) := (Low.refl _ _).alloc (Nat.le_refl _) _
      have a3 := heap_new w2 (.cells #[.slice Pp 1 pc, .slice A n c, .int .i64 4, .int .i64 (-1), .slice T 0 tc] 29)
      have L3 := Lib.hid l3; have H3 := Lib.hid (h2.low l3); have M3 := Lib.hid (M2.out.keep (l3.block _ (heap_lt M2.out)))
      clear h2 r0 r1 r2 r3 r4 r5 l3
      go_upto_region 6 with fail
      clear p0 p1 p2 p3 p4 y1
      obtain ⟨t7, ht7⟩ : ∃ t, t = w2.heap.size := ⟨_, rfl⟩
      rw [← ht7] at a3 ⊢
      clear ht7
      generalize w2.alloc (.cells #[.slice Pp 1 pc, .slice A n c, .int .i64 4, .int .i64 (-1), .slice T 0 tc] 29) = w3 at a3 L3 H3 M3 ⊢
      have y1 : w3.cell? ⟨t7, 1, none⟩ = some (.slice A n c) := cell_of a3
      clear a3
      go_wp2_with fail
      go_loopw [26, 5, 4] (fun i s z wr => z = .int .i64 0 ∧ ∃ q : Nat, i = .int .i64 q ∧ q ≤ n ∧ s = .int .i64 (((callM (l.take q) : Nat) : Int) - 1) ∧ Chs [cm] w3 wr ∧ MapM wr cm (callM (l.take q))) (fun i _ _ _ => n - (intOf i).toNat)
      case atStart => exact ⟨rfl, 0, rfl, by omega, rfl, Chs.refl _ _, M3.out⟩
      case round =>
        obtain ⟨rfl, q, rfl, hq, rfl, hc, hm⟩ := hrel
        obtain ⟨wv, rfl⟩ : ∃ u, u = wr := ⟨_, rfl⟩
        by_cases hlt : q < n
        · have hlt' : (q : Int) < (n : Int) := by omega
          have hq0 : (0 : Int) ≤ (q : Int) := by omega
          have hqn : (q : Int) ≤ 12 := by omega
          have hmpv : Maps w3 [cm] := fun b hb => by
            rw [List.mem_singleton] at hb
            subst hb
            exact ⟨_, _, M3.out⟩
          have hv := H3.out.maps hc hmpv
          obtain ⟨o, ho⟩ : ∃ o, l[q]? = some o := ⟨_, List.getElem?_eq_getElem (by have := hv.ops.1; omega)⟩
          obtain ⟨ga', cs1, rfl, hnc, hg, k0, k1, k2, k3, k4, k5⟩ := hv.ops.2 q o ho
          have c0 : wv.cell? ⟨ga', q * 6, none⟩ = some (.int .i64 o.code) := (cell_of hg).trans k0
          have c1 : wv.cell? ⟨ga', q * 6 + 1, none⟩ = some (.int .i64 o.res) := (cell_of hg).trans k1
          have c2 : wv.cell? ⟨ga', q * 6 + 2, none⟩ = some (.int .i64 0) := (cell_of hg).trans k2
          have c3 : wv.cell? ⟨ga', q * 6 + 3, none⟩ = some (.int .i64 0) := (cell_of hg).trans k3
          have c4 : wv.cell? ⟨ga', q * 6 + 4, none⟩ = some (.int .u16 o.n) := (cell_of hg).trans k4
          have c5 : wv.cell? ⟨ga', q * 6 + 5, none⟩ = some (.slice none 0 0) := (cell_of hg).trans k5
          have hcd := (hv.ok o (List.mem_of_getElem? ho)).1
          have hcn : ¬ o.code = 2 := by
            intro h2
            rw [h2] at hcd
            exact absurd hcd (by unfold OkCode; decide)
          have hsn := callM_snoc ho
          have l9 : Low wv.heap.size wv (wv.alloc (.cells #[.int .i64 o.code, .int .i64 o.res, .int .i64 0, .int .i64 0, .int .u16 o.n, .slice none 0 0] 33)) := (Low.refl _ _).alloc (Nat.le_refl _) _
          have a9 := heap_new wv (.cells #[.int .i64 o.code, .int .i64 o.res, .int .i64 0, .int .i64 0, .int .u16 o.n, .slice none 0 0] 33)
          have CV := Lib.hid (hc.tail (l9.mono hc.size)); have MV := Lib.hid (hm.keep (l9.block _ (heap_lt hm)))
          have HSN := Lib.hid hsn
          clear hmpv hv ho hg k0 k1 k2 k3 k4 k5 hcd hsn hc hm l9
          go_upto_region 9 with fail
          clear c0 c1 c2 c3 c4 c5 y1
          obtain ⟨t9, ht9⟩ : ∃ t, t = wv.heap.size := ⟨_, rfl⟩
          rw [← ht9] at a9 ⊢
          clear ht9
          generalize wv.alloc (.cells #[.int .i64 o.code, .int .i64 o.res, .int .i64 0, .int .i64 0, .int .u16 o.n, .slice none 0 0] 33) = wa at a9 CV MV ⊢
          have x0 : wa.cell? ⟨t9, 0, none⟩ = some (.int .i64 o.code) := cell_of a9
          have x2 : wa.cell? ⟨t9, 2, none⟩ = some (.int .i64 0) := cell_of a9
          have x5 : wa.cell? ⟨t9, 5, none⟩ = some (.slice none 0 0) := cell_of a9
          have A9 := Lib.hid a9
          clear a9
          by_cases h26 : o.code = 26
          · rw [h26] at x0
            have hsn := HSN.out
            rw [if_pos h26] at hsn
            have SN := Lib.hid hsn
            clear hcn hsn h26
            have hS13 : wa.cell? ⟨t9, 2, none⟩ = some (.int .i64 0) ∧ wa.cell? ⟨t9, 5, none⟩ = some (.slice none 0 0) := ⟨x2, x5⟩
            obtain ⟨M, hM⟩ : ∃ M, M = callM (l.take q) := ⟨_, rfl⟩
            have MV' := MV.out
            rw [← hM] at MV' ⊢
            have hM01 : M = 0 ∨ M = 1 := hM ▸ callM_le _
            obtain ⟨hmu, hm1⟩ := map_note (w := wa.drew) (m := cm) MV' hM01
            have hmx : (if (M : Int) - 1 < 0 then (0 : Int) else (M : Int) - 1) = 0 := by rcases hM01 with rfl | rfl <;> rfl
            have C13 := Lib.hid (((Chs.refl [cm] wa).drew).trans (Chs.setBlock (B := [cm]) wa.drew (d := cm) (List.mem_singleton.2 rfl) (.map #[⟨.int .i64 0, .int .i64 0, 0⟩] 1)))
            have M13 := Lib.hid hm1
            have hoff : t9 ∉ [cm] := fun hq => by
              rw [List.mem_singleton] at hq
              subst hq
              have h1 := A9.out
              rw [MV'] at h1; cases h1
            have HOFF := Lib.hid hoff
            clear hm1 hM MV' hoff
            go_upto_region 13 with fail
            rcases hM01 with rfl | rfl
            · refine wp_region_noPanic ?_
              refine wp_region_held_drew (S := fun w' => w'.cell? ⟨t9, 2, none⟩ = some (.int .i64 0) ∧ w'.cell? ⟨t9, 5, none⟩ = some (.slice none 0 0)) (by kernel_rfl) (by exact hS13) (fun hHeld => ?_)
              refine take_at (i := 0) (v := ?_) rfl (by kernel_rfl) (by kernel_rfl) (by kernel_rfl) (fun _ _ _ h => h) (by rfl) ?_ (by assumption) ?_
              rotate_left
              · intro w' hSw; obtain ⟨s2, s5⟩ := hSw; go_simp; (try with_reducible rfl)
              (try simp only [Act.put, List.setIfInBounds_toArray, List.set_cons_zero, List.set_cons_succ])
              refine take_at (i := 1) (v := ?_) rfl (by kernel_rfl) (by kernel_rfl) (by kernel_rfl) (fun _ _ _ h => h) (by rfl) ?_ (by assumption) ?_
              rotate_left
              · intro w' hSw; obtain ⟨s2, s5⟩ := hSw; go_simp; (try with_reducible rfl)
              (try simp only [Act.put, List.setIfInBounds_toArray, List.set_cons_zero, List.set_cons_succ])
              refine take_at (i := 2) (v := ?_) rfl (by kernel_rfl) (by kernel_rfl) (by kernel_rfl) (fun _ _ _ h => h) (by rfl) ?_ (by assumption) ?_
              rotate_left
              · intro w' hSw; obtain ⟨s2, s5⟩ := hSw; go_simp; (try with_reducible rfl)
              (try simp only [Act.put, List.setIfInBounds_toArray, List.set_cons_zero, List.set_cons_succ])
              refine take_at (i := 3) (v := ?_) rfl (by kernel_rfl) (by kernel_rfl) (by kernel_rfl) (fun _ _ _ h => h) (by rfl) ?_ (by assumption) ?_
              rotate_left
              · intro w' hSw; obtain ⟨s2, s5⟩ := hSw; go_simp; (try with_reducible rfl)
              (try simp only [Act.put, List.setIfInBounds_toArray, List.set_cons_zero, List.set_cons_succ])
              refine take_at (i := 4) (v := ?_) rfl (by kernel_rfl) (by kernel_rfl) (by kernel_rfl) (fun _ _ _ h => h) (by rfl) ?_ (by assumption) ?_
              rotate_left
              · intro w' hSw; obtain ⟨s2, s5⟩ := hSw; go_simp; (try with_reducible rfl)
              (try simp only [Act.put, List.setIfInBounds_toArray, List.set_cons_zero, List.set_cons_succ])
              refine take_at (i := 5) (v := ?_) rfl (by kernel_rfl) (by kernel_rfl) (by kernel_rfl) (fun _ _ _ h => h) (by rfl) ?_ (by assumption) ?_
              rotate_left
              · intro w' hSw; obtain ⟨s2, s5⟩ := hSw; go_simp; (try with_reducible rfl)
              (try simp only [Act.put, List.setIfInBounds_toArray, List.set_cons_zero, List.set_cons_succ])
              refine take_at (i := 6) (v := ?_) rfl (by kernel_rfl) (by kernel_rfl) (by kernel_rfl) (fun _ _ _ h => h) (by rfl) ?_ (by assumption) ?_
              rotate_left
              · intro w' hSw; obtain ⟨s2, s5⟩ := hSw; go_simp; (try with_reducible rfl)
              (try simp only [Act.put, List.setIfInBounds_toArray, List.set_cons_zero, List.set_cons_succ])
              refine take_at (i := 7) (v := ?_) rfl (by kernel_rfl) (by kernel_rfl) (by kernel_rfl) (fun _ _ _ h => h) (by rfl) ?_ (by assumption) ?_
              rotate_left
              · intro w' hSw; obtain ⟨s2, s5⟩ := hSw; go_simp; (try with_reducible rfl)
              (try simp only [Act.put, List.setIfInBounds_toArray, List.set_cons_zero, List.set_cons_succ])
              refine take_at (i := 8) (v := ?_) rfl (by kernel_rfl) (by kernel_rfl) (by kernel_rfl) (fun _ _ _ h => h) (by rfl) ?_ (by assumption) ?_
              rotate_left
              · intro w' hSw; obtain ⟨s2, s5⟩ := hSw; go_simp; (try with_reducible rfl)
              (try simp only [Act.put, List.setIfInBounds_toArray, List.set_cons_zero, List.set_cons_succ])
              refine take_at (i := 9) (v := ?_) rfl (by kernel_rfl) (by kernel_rfl) (by kernel_rfl) (fun _ _ _ h => h) (by rfl) ?_ (by assumption) ?_
              rotate_left
              · intro w' hSw; obtain ⟨s2, s5⟩ := hSw; go_simp; (try with_reducible rfl)
              (try simp only [Act.put, List.setIfInBounds_toArray, List.set_cons_zero, List.set_cons_succ])
              refine wpAnyH_ready (rs := [10]) (by kernel_rfl) (by simp) ?_
              refine next_at (i := 10) rfl (fun KK hKK => ?_) AllReadyH.nil
              go_simp
              have a13 := C13.out.obj A9.out HOFF.out
              have hS14 : (Go.ChangeMaps.setBlock wa.drew cm (.map #[⟨.int .i64 0, .int .i64 0, 0⟩] 1)).cell? ⟨t9, 2, none⟩ = some (.int .i64 0) ∧ (Go.ChangeMaps.setBlock wa.drew cm (.map #[⟨.int .i64 0, .int .i64 0, 0⟩] 1)).cell? ⟨t9, 5, none⟩ = some (.slice none 0 0) := ⟨cell_of a13, cell_of a13⟩
              clear a13
              refine hKK.out _ _ (by exact hS14) (fun hHeld => ?_)
              clear hKK KK
              (try simp only [Act.put, List.setIfInBounds_toArray, List.set_cons_zero, List.set_cons_succ])
              refine take_at (i := 11) (v := ?_) rfl (by kernel_rfl) (by kernel_rfl) (by kernel_rfl) (fun _ _ _ h => h) (by rfl) ?_ (by assumption) ?_
              rotate_left
              · intro w' hSw; obtain ⟨s2, s5⟩ := hSw; go_simp; (try with_reducible rfl)
              (try simp only [Act.put, List.setIfInBounds_toArray, List.set_cons_zero, List.set_cons_succ])
              refine wpAnyH_done (by kernel_rfl) ?_ _
              refine NoPanic.normal ?_
              clear hS14 hmu hmx x0 x2 x5 hS13
              go_wp2_with fail
              exact ⟨⟨rfl, q + 1, by simp, hlt, by rw [SN.out]; rfl, CV.out.trans C13.out, by rw [SN.out]; exact M13.out⟩, by show n - ((q : Int) + 1).toNat < n - ((q : Int)).toNat; omega⟩
            · refine wp_region_noPanic ?_
              refine wp_region_held_drew (S := fun w' => w'.cell? ⟨t9, 2, none⟩ = some (.int .i64 0) ∧ w'.cell? ⟨t9, 5, none⟩ = some (.slice none 0 0)) (by kernel_rfl) (by exact hS13) (fun hHeld => ?_)
              refine take_at (i := 0) (v := ?_) rfl (by kernel_rfl) (by kernel_rfl) (by kernel_rfl) (fun _ _ _ h => h) (by rfl) ?_ (by assumption) ?_
              rotate_left
              · intro w' hSw; obtain ⟨s2, s5⟩ := hSw; go_simp; (try with_reducible rfl)
              (try simp only [Act.put, List.setIfInBounds_toArray, List.set_cons_zero, List.set_cons_succ])
              refine take_at (i := 1) (v := ?_) rfl (by kernel_rfl) (by kernel_rfl) (by kernel_rfl) (fun _ _ _ h => h) (by rfl) ?_ (by assumption) ?_
              rotate_left
              · intro w' hSw; obtain ⟨s2, s5⟩ := hSw; go_simp; (try with_reducible rfl)
              (try simp only [Act.put, List.setIfInBounds_toArray, List.set_cons_zero, List.set_cons_succ])
              refine take_at (i := 2) (v := ?_) rfl (by kernel_rfl) (by kernel_rfl) (by kernel_rfl) (fun _ _ _ h => h) (by rfl) ?_ (by assumption) ?_
              rotate_left
              · intro w' hSw; obtain ⟨s2, s5⟩ := hSw; go_simp; (try with_reducible rfl)
              (try simp only [Act.put, List.setIfInBounds_toArray, List.set_cons_zero, List.set_cons_succ])
              refine take_at (i := 3) (v := ?_) rfl (by kernel_rfl) (by kernel_rfl) (by kernel_rfl) (fun _ _ _ h => h) (by rfl) ?_ (by assumption) ?_
              rotate_left
              · intro w' hSw; obtain ⟨s2, s5⟩ := hSw; go_simp; (try with_reducible rfl)
              (try simp only [Act.put, List.setIfInBounds_toArray, List.set_cons_zero, List.set_cons_succ])
              refine take_at (i := 4) (v := ?_) rfl (by kernel_rfl) (by kernel_rfl) (by kernel_rfl) (fun _ _ _ h => h) (by rfl) ?_ (by assumption) ?_
              rotate_left
              · intro w' hSw; obtain ⟨s2, s5⟩ := hSw; go_simp; (try with_reducible rfl)
              (try simp only [Act.put, List.setIfInBounds_toArray, List.set_cons_zero, List.set_cons_succ])
              refine take_at (i := 5) (v := ?_) rfl (by kernel_rfl) (by kernel_rfl) (by kernel_rfl) (fun _ _ _ h => h) (by rfl) ?_ (by assumption) ?_
              rotate_left
              · intro w' hSw; obtain ⟨s2, s5⟩ := hSw; go_simp; (try with_reducible rfl)
              (try simp only [Act.put, List.setIfInBounds_toArray, List.set_cons_zero, List.set_cons_succ])
              refine take_at (i := 6) (v := ?_) rfl (by kernel_rfl) (by kernel_rfl) (by kernel_rfl) (fun _ _ _ h => h) (by rfl) ?_ (by assumption) ?_
              rotate_left
              · intro w' hSw; obtain ⟨s2, s5⟩ := hSw; go_simp; (try with_reducible rfl)
              (try simp only [Act.put, List.setIfInBounds_toArray, List.set_cons_zero, List.set_cons_succ])
              refine take_at (i := 7) (v := ?_) rfl (by kernel_rfl) (by kernel_rfl) (by kernel_rfl) (fun _ _ _ h => h) (by rfl) ?_ (by assumption) ?_
              rotate_left
              · intro w' hSw; obtain ⟨s2, s5⟩ := hSw; go_simp; (try with_reducible rfl)
              (try simp only [Act.put, List.setIfInBounds_toArray, List.set_cons_zero, List.set_cons_succ])
              refine take_at (i := 8) (v := ?_) rfl (by kernel_rfl) (by kernel_rfl) (by kernel_rfl) (fun _ _ _ h => h) (by rfl) ?_ (by assumption) ?_
              rotate_left
              · intro w' hSw; obtain ⟨s2, s5⟩ := hSw; go_simp; (try with_reducible rfl)
              (try simp only [Act.put, List.setIfInBounds_toArray, List.set_cons_zero, List.set_cons_succ])
              refine take_at (i := 9) (v := ?_) rfl (by kernel_rfl) (by kernel_rfl) (by kernel_rfl) (fun _ _ _ h => h) (by rfl) ?_ (by assumption) ?_
              rotate_left
              · intro w' hSw; obtain ⟨s2, s5⟩ := hSw; go_simp; (try with_reducible rfl)
              (try simp only [Act.put, List.setIfInBounds_toArray, List.set_cons_zero, List.set_cons_succ])
              refine wpAnyH_ready (rs := [10]) (by kernel_rfl) (by simp) ?_
              refine next_at (i := 10) rfl (fun KK hKK => ?_) AllReadyH.nil
              go_simp
              have a13 := C13.out.obj A9.out HOFF.out
              have hS14 : (Go.ChangeMaps.setBlock wa.drew cm (.map #[⟨.int .i64 0, .int .i64 0, 0⟩] 1)).cell? ⟨t9, 2, none⟩ = some (.int .i64 0) ∧ (Go.ChangeMaps.setBlock wa.drew cm (.map #[⟨.int .i64 0, .int .i64 0, 0⟩] 1)).cell? ⟨t9, 5, none⟩ = some (.slice none 0 0) := ⟨cell_of a13, cell_of a13⟩
              clear a13
              refine hKK.out _ _ (by exact hS14) (fun hHeld => ?_)
              clear hKK KK
              (try simp only [Act.put, List.setIfInBounds_toArray, List.set_cons_zero, List.set_cons_succ])
              refine take_at (i := 11) (v := ?_) rfl (by kernel_rfl) (by kernel_rfl) (by kernel_rfl) (fun _ _ _ h => h) (by rfl) ?_ (by assumption) ?_
              rotate_left
              · intro w' hSw; obtain ⟨s2, s5⟩ := hSw; go_simp; (try with_reducible rfl)
              (try simp only [Act.put, List.setIfInBounds_toArray, List.set_cons_zero, List.set_cons_succ])
              refine wpAnyH_done (by kernel_rfl) ?_ _
              refine NoPanic.normal ?_
              clear hS14 hmu hmx x0 x2 x5 hS13
              go_wp2_with fail
              exact ⟨⟨rfl, q + 1, by simp, hlt, by rw [SN.out]; rfl, CV.out.trans C13.out, by rw [SN.out]; exact M13.out⟩, by show n - ((q : Int) + 1).toNat < n - ((q : Int)).toNat; omega⟩
          · have hsn := HSN.out
            rw [if_neg h26] at hsn
            have SN := Lib.hid hsn
            clear hsn
            go_wp2_with fail
            exact ⟨⟨rfl, q + 1, by simp, hlt, by rw [SN.out], CV.out, by rw [SN.out]; exact MV.out⟩, by show n - ((q : Int) + 1).toNat < n - ((q : Int)).toNat; omega⟩
        · have hlt' : ¬ (q : Int) < (n : Int) := by omega
          obtain rfl : q = n := by omega
          have hlen := H3.out.ops.1
          have htk : l.take q = l := List.take_of_length_le (by omega)
          rw [htk] at hm ⊢
          have HC := Lib.hid ((Chs.of_low L3.out).trans hc); have HM := Lib.hid hm
          clear hc hm hlen htk
          go_wp2_with fail
          exact ⟨⟨rfl, .inr ⟨rfl, rfl, HC.out, HM.out⟩⟩, by decide⟩
    · obtain ⟨w4, rfl⟩ : ∃ u, u = wr := ⟨_, rfl⟩
      have L4 := Lib.hid (L2.out.trans (hc.low (by intro b hb; rw [List.mem_singleton] at hb; have := HCW.out; omega) L2.out.size))
      have A4 := Lib.hid (hc.obj A2.out (MP.out.off A2.out)); have H4 := Lib.hid ((H.out.low L2.out).maps hc MP.out)
      clear hc y1
      obtain ⟨M, hM⟩ : ∃ M, callM l = M := ⟨_, rfl⟩
      rw [hM] at hm ⊢
      have hM01 : M = 0 ∨ M = 1 := hM ▸ callM_le l
      clear hM
      rcases hM01 with rfl | rfl
      · have M4 := Lib.hid hm
        clear hm
        rw [show (((0 : Nat) : Int) - 1) = -1 from rfl]
        have y1 : w4.cell? ⟨t1, 0, none⟩ = some (.slice (some ⟨g, 0, none⟩) 1 cg) := cell_of A4.out
        have p0 : w4.cell? ⟨g, 0, none⟩ = some (.slice Pp 1 pc) := by
          obtain ⟨cs0, r0, r1, _⟩ := H4.out.row
          exact (cell_of r0).trans r1
        have hbs : ∀ u : World, (Instr.buildSlice 37 1 #[(0, .agg #[.slice none 0 0, .slice none 0 0, .int .i64 5, .int .i64 0, .slice none 0 0])]).run Tryz.prog u = .ok (.slice (some ⟨u.heap.size, 0, none⟩) 1 1) (u.alloc (.cells #[.slice none 0 0, .slice none 0 0, .int .i64 5, .int .i64 0, .slice none 0 0] 29)) := fun u => by kernel_rfl
        obtain ⟨gh, hgh⟩ : ∃ S, w4.heap.size = S := ⟨_, rfl⟩
        go_upto_region 21 with fail
        obtain ⟨t10, ht10⟩ : ∃ t, t = gh + 1 := ⟨_, rfl⟩
        have hv := two_allocs (.cells #[.slice none 0 0, .slice none 0 0, .int .i64 5, .int .i64 0, .slice none 0 0] 29) (.cells #[.slice (some ⟨gh, 0, none⟩) 1 1] 39) hgh rfl ht10 _ rfl
        rw [← ht10]
        clear ht10 hgh y1 p0 hbs
        generalize (w4.alloc (.cells #[.slice none 0 0, .slice none 0 0, .int .i64 5, .int .i64 0, .slice none 0 0] 29)).alloc (.cells #[.slice (some ⟨gh, 0, none⟩) 1 1] 39) = w5 at hv ⊢
        obtain ⟨l5, hh5, hx5⟩ := hv
        have L5 := Lib.hid (L4.out.trans (l5.mono L4.out.size)); have A5 := Lib.hid (l5.some A4.out); have H5 := Lib.hid (H4.out.low l5); have M5 := Lib.hid (M4.out.keep (l5.block _ (heap_lt M4.out)))
        have HH5 := Lib.hid (show HaltAt w5 gh from hh5); have X5 := Lib.hid hx5
        clear l5 hh5 hx5
        have hmkf := mk54_0
        have hmka := mk22_0
        have LZ := Lib.hid (Low.refl w5.heap.size w5)
        have hT : True := trivial
        go_cut [11] (fun v11 wx => ∃ t11 gf ga, v11 = .pointer (some ⟨t11, 0, none⟩) ∧ Low w5.heap.size w5 wx ∧ w5.heap.size ≤ t11 ∧ w5.heap.size ≤ gf ∧ w5.heap.size ≤ ga ∧ wx.heap[t11]? = some (.cells #[.slice (some ⟨gf, 0, none⟩) 0 0, .slice (some ⟨ga, 0, none⟩) 0 0, .int .i64 0, .int .i64 (-1), .slice none 0 0, .slice none 0 0] 58 (0, 0)) ∧ wx.heap[gf]? = some (.cells #[] 39 (0, 0)) ∧ wx.heap[ga]? = some (.cells #[] 3 (0, 0)))
        case first =>
          refine wp_region_noPanic ?_
          refine wp_region_held_drew (S := fun w' => True) (by kernel_rfl) (by exact hT) (fun hHeld => ?_)
          refine take_at (i := 0) (v := ?_) rfl (by kernel_rfl) (by kernel_rfl) (by kernel_rfl) (fun _ _ _ h => h) (by rfl) ?_ (by assumption) ?_
          rotate_left
          · intro w' hSw; have s0 := hSw; go_simp; (try with_reducible rfl)
          (try simp only [Act.put, List.setIfInBounds_toArray, List.set_cons_zero, List.set_cons_succ])
          refine take_at (i := 1) (v := ?_) rfl (by kernel_rfl) (by kernel_rfl) (by kernel_rfl) (fun _ _ _ h => h) (by rfl) ?_ (by assumption) ?_
          rotate_left
          · intro w' hSw; have s0 := hSw; go_simp; (try with_reducible rfl)
          (try simp only [Act.put, List.setIfInBounds_toArray, List.set_cons_zero, List.set_cons_succ])
          refine take_at (i := 3) (v := ?_) rfl (by kernel_rfl) (by kernel_rfl) (by kernel_rfl) (fun _ _ _ h => h) (by rfl) ?_ (by assumption) ?_
          rotate_left
          · intro w' hSw; have s0 := hSw; go_simp; (try with_reducible rfl)
          (try simp only [Act.put, List.setIfInBounds_toArray, List.set_cons_zero, List.set_cons_succ])
          refine take_at (i := 4) (v := ?_) rfl (by kernel_rfl) (by kernel_rfl) (by kernel_rfl) (fun _ _ _ h => h) (by rfl) ?_ (by assumption) ?_
          rotate_left
          · intro w' hSw; have s0 := hSw; go_simp; (try with_reducible rfl)
          (try simp only [Act.put, List.setIfInBounds_toArray, List.set_cons_zero, List.set_cons_succ])
          refine take_at (i := 6) (v := ?_) rfl (by kernel_rfl) (by kernel_rfl) (by kernel_rfl) (fun _ _ _ h => h) (by rfl) ?_ (by assumption) ?_
          rotate_left
          · intro w' hSw; have s0 := hSw; go_simp; (try with_reducible rfl)
          (try simp only [Act.put, List.setIfInBounds_toArray, List.set_cons_zero, List.set_cons_succ])
          refine take_at (i := 7) (v := ?_) rfl (by kernel_rfl) (by kernel_rfl) (by kernel_rfl) (fun _ _ _ h => h) (by rfl) ?_ (by assumption) ?_
          rotate_left
          · intro w' hSw; have s0 := hSw; go_simp; (try with_reducible rfl)
          (try simp only [Act.put, List.setIfInBounds_toArray, List.set_cons_zero, List.set_cons_succ])
          have hw0 : IntKind.i64.wrap 0 = 0 := by kernel_rfl
          simp only [hw0]
          clear hw0
          refine wpAnyH_ready (rs := [2, 5, 9]) (by kernel_rfl) (by simp) ?_
          refine next_at (i := 2) rfl (fun KK hKK => ?_) (next_at (i := 5) rfl (fun KK hKK => ?_) (next_at (i := 9) rfl (fun KK hKK => ?_) AllReadyH.nil))
          · obtain ⟨wd1, hwd⟩ : ∃ u, u = w5.drew := ⟨_, rfl⟩
            have LD2 := Lib.hid (show Low w5.heap.size w5 wd1 from hwd ▸ (LZ.out).drew)
            rw [← hwd]
            clear hwd
            go_simp
            have l1 : Low wd1.heap.size wd1 (wd1.alloc (.cells #[] 39)) := (Low.refl _ _).alloc (Nat.le_refl _) _
            have hb := heap_new wd1 (.cells #[] 39)
            have hs := LD2.out.size
            obtain ⟨b5, hq⟩ : ∃ t, t = wd1.heap.size := ⟨_, rfl⟩
            rw [← hq] at hb hs ⊢
            clear hq
            generalize wd1.alloc (.cells #[] 39) = w3 at l1 hb ⊢
            have B6 := Lib.hid hb; have HB7 := Lib.hid hs; have L4 := Lib.hid (LD2.out.trans (l1.mono LD2.out.size))
            clear l1 hb hs
            refine hKK.out _ _ (by exact hT) (fun hHeld => ?_)
            clear hKK KK
            (try simp only [Act.put, List.setIfInBounds_toArray, List.set_cons_zero, List.set_cons_succ])
            refine wpAnyH_ready (rs := [5, 9]) (by kernel_rfl) (by simp) ?_
            refine next_at (i := 5) rfl (fun KK hKK => ?_) (next_at (i := 9) rfl (fun KK hKK => ?_) AllReadyH.nil)
            · go_simp
              have l1 : Low w3.heap.size w3 (w3.alloc (.cells #[] 3)) := (Low.refl _ _).alloc (Nat.le_refl _) _
              have hb := heap_new w3 (.cells #[] 3)
              have hs := L4.out.size
              obtain ⟨b10, hq⟩ : ∃ t, t = w3.heap.size := ⟨_, rfl⟩
              rw [← hq] at hb hs ⊢
              clear hq
              generalize w3.alloc (.cells #[] 3) = w8 at l1 hb ⊢
              have B11 := Lib.hid hb; have HB12 := Lib.hid hs; have L9 := Lib.hid (L4.out.trans (l1.mono L4.out.size))
              have B13 := Lib.hid (l1.some B6.out)
              clear l1 hb hs
              refine hKK.out _ _ (by exact hT) (fun hHeld => ?_)
              clear hKK KK
              (try simp only [Act.put, List.setIfInBounds_toArray, List.set_cons_zero, List.set_cons_succ])
              refine take_at (i := 8) (v := ?_) rfl (by kernel_rfl) (by kernel_rfl) (by kernel_rfl) (fun _ _ _ h => h) (by rfl) ?_ (by assumption) ?_
              rotate_left
              · intro w' hSw; have s0 := hSw; go_simp; (try with_reducible rfl)
              (try simp only [Act.put, List.setIfInBounds_toArray, List.set_cons_zero, List.set_cons_succ])
              refine wpAnyH_ready (rs := [9]) (by kernel_rfl) (by simp) ?_
              refine next_at (i := 9) rfl (fun KK hKK => ?_) AllReadyH.nil
              · go_simp
                have l1 : Low w8.heap.size w8 (w8.alloc (.cells #[.slice none 0 0, .slice none 0 0, .int .i64 0, .int .i64 0, .slice none 0 0, .slice none 0 0] 58)) := (Low.refl _ _).alloc (Nat.le_refl _) _
                have hb := heap_new w8 (.cells #[.slice none 0 0, .slice none 0 0, .int .i64 0, .int .i64 0, .slice none 0 0, .slice none 0 0] 58)
                have hs := L9.out.size
                obtain ⟨b16, hq⟩ : ∃ t, t = w8.heap.size := ⟨_, rfl⟩
                rw [← hq] at hb hs ⊢
                clear hq
                generalize w8.alloc (.cells #[.slice none 0 0, .slice none 0 0, .int .i64 0, .int .i64 0, .slice none 0 0, .slice none 0 0] 58) = w14 at l1 hb ⊢
                have B17 := Lib.hid hb; have HB18 := Lib.hid hs; have L15 := Lib.hid (L9.out.trans (l1.mono L9.out.size))
                have B19 := Lib.hid (l1.some B13.out)
                have B20 := Lib.hid (l1.some B11.out)
                clear l1 hb hs
                refine hKK.out _ _ (by exact hT) (fun hHeld => ?_)
                clear hKK KK
                (try simp only [Act.put, List.setIfInBounds_toArray, List.set_cons_zero, List.set_cons_succ])
                have e0 : w14.cell? ⟨b16, 0, none⟩ = some (.slice none 0 0) := cell_of B17.out
                have f0 : w14.frozen? ⟨b16, 0, none⟩ = false := free_of B17.out
                have e1 : w14.cell? ⟨b16, 1, none⟩ = some (.slice none 0 0) := cell_of B17.out
                have f1 : w14.frozen? ⟨b16, 1, none⟩ = false := free_of B17.out
                have e2 : w14.cell? ⟨b16, 2, none⟩ = some (.int .i64 0) := cell_of B17.out
                have f2 : w14.frozen? ⟨b16, 2, none⟩ = false := free_of B17.out
                have e3 : w14.cell? ⟨b16, 3, none⟩ = some (.int .i64 0) := cell_of B17.out
                have f3 : w14.frozen? ⟨b16, 3, none⟩ = false := free_of B17.out
                have e4 : w14.cell? ⟨b16, 4, none⟩ = some (.slice none 0 0) := cell_of B17.out
                have f4 : w14.frozen? ⟨b16, 4, none⟩ = false := free_of B17.out
                have e5 : w14.cell? ⟨b16, 5, none⟩ = some (.slice none 0 0) := cell_of B17.out
                have f5 : w14.frozen? ⟨b16, 5, none⟩ = false := free_of B17.out
                refine wpAnyH_ready (rs := [10]) (by kernel_rfl) (by simp) ?_
                refine next_at (i := 10) rfl (fun KK hKK => ?_) AllReadyH.nil
                go_simp
                obtain ⟨hz1, hz2, hz3, hz4⟩ := six_sets (v0 := .slice (some ⟨b5, 0, none⟩) 0 0) (v1 := .slice (some ⟨b10, 0, none⟩) 0 0) (v2 := .int .i64 0) (v3 := .int .i64 (-1)) (v4 := .slice none 0 0) (v5 := .slice none 0 0) B17.out _ rfl
                have hlow := hz4 w5.heap.size (fun u => Low w5.heap.size w5 u) (Inv.low w5.heap.size w5 (Nat.le_refl _)) HB18.out L15.out
                have hgf : b5 ≠ b16 := by
                  rintro rfl
                  have h1 := B17.out
                  rw [B19.out] at h1; cases h1
                have hga : b10 ≠ b16 := by
                  rintro rfl
                  have h1 := B17.out
                  rw [B20.out] at h1; cases h1
                have hF9 := (hz2 _ hgf).trans B19.out
                have hG9 := (hz2 _ hga).trans B20.out
                clear hz2 hz3 hz4 hgf hga
                generalize World.setCell _ _ _ = w9 at hz1 hlow hF9 hG9 ⊢
                clear e0 e1 e2 e3 e4 e5 f0 f1 f2 f3 f4 f5
                have RES := Lib.hid (And.intro hlow (And.intro HB18.out (And.intro HB7.out (And.intro HB12.out (And.intro hz1 (And.intro hF9 hG9))))))
                clear hz1 hlow hF9 hG9
                refine hKK.out _ _ (by exact hT) (fun hHeld => ?_)
                clear hKK KK
                (try simp only [Act.put, List.setIfInBounds_toArray, List.set_cons_zero, List.set_cons_succ])
                refine wpAnyH_done (by kernel_rfl) ?_ _
                refine NoPanic.normal ?_
                (try go_wp2_with fail)
                go_meet
                exact ⟨b16, b5, b10, rfl, RES.out⟩
            · go_simp
              have l1 : Low w3.heap.size w3 (w3.alloc (.cells #[.slice none 0 0, .slice none 0 0, .int .i64 0, .int .i64 0, .slice none 0 0, .slice none 0 0] 58)) := (Low.refl _ _).alloc (Nat.le_refl _) _
              have hb := heap_new w3 (.cells #[.slice none 0 0, .slice none 0 0, .int .i64 0, .int .i64 0, .slice none 0 0, .slice none 0 0] 58)
              have hs := L4.out.size
              obtain ⟨b23, hq⟩ : ∃ t, t = w3.heap.size := ⟨_, rfl⟩
              rw [← hq] at hb hs ⊢
              clear hq
              generalize w3.alloc (.cells #[.slice none 0 0, .slice none 0 0, .int .i64 0, .int .i64 0, .slice none 0 0, .slice none 0 0] 58) = w21 at l1 hb ⊢
              have B24 := Lib.hid hb; have HB25 := Lib.hid hs; have L22 := Lib.hid (L4.out.trans (l1.mono L4.out.size))
              have B26 := Lib.hid (l1.some B6.out)
              clear l1 hb hs
              refine hKK.out _ _ (by exact hT) (fun hHeld => ?_)
              clear hKK KK
              (try simp only [Act.put, List.setIfInBounds_toArray, List.set_cons_zero, List.set_cons_succ])
              refine wpAnyH_ready (rs := [5]) (by kernel_rfl) (by simp) ?_
              refine next_at (i := 5) rfl (fun KK hKK => ?_) AllReadyH.nil
              · go_simp
                have l1 : Low w21.heap.size w21 (w21.alloc (.cells #[] 3)) := (Low.refl _ _).alloc (Nat.le_refl _) _
                have hb := heap_new w21 (.cells #[] 3)
                have hs := L22.out.size
                obtain ⟨b29, hq⟩ : ∃ t, t = w21.heap.size := ⟨_, rfl⟩
                rw [← hq] at hb hs ⊢
                clear hq
                generalize w21.alloc (.cells #[] 3) = w27 at l1 hb ⊢
                have B30 := Lib.hid hb; have HB31 := Lib.hid hs; have L28 := Lib.hid (L22.out.trans (l1.mono L22.out.size))
                have B32 := Lib.hid (l1.some B26.out)
                have B33 := Lib.hid (l1.some B24.out)
                clear l1 hb hs
                refine hKK.out _ _ (by exact hT) (fun hHeld => ?_)
                clear hKK KK
                (try simp only [Act.put, List.setIfInBounds_toArray, List.set_cons_zero, List.set_cons_succ])
                refine take_at (i := 8) (v := ?_) rfl (by kernel_rfl) (by kernel_rfl) (by kernel_rfl) (fun _ _ _ h => h) (by rfl) ?_ (by assumption) ?_
                rotate_left
                · intro w' hSw; have s0 := hSw; go_simp; (try with_reducible rfl)
                (try simp only [Act.put, List.setIfInBounds_toArray, List.set_cons_zero, List.set_cons_succ])
                have e0 : w27.cell? ⟨b23, 0, none⟩ = some (.slice none 0 0) := cell_of B33.out
                have f0 : w27.frozen? ⟨b23, 0, none⟩ = false := free_of B33.out
                have e1 : w27.cell? ⟨b23, 1, none⟩ = some (.slice none 0 0) := cell_of B33.out
                have f1 : w27.frozen? ⟨b23, 1, none⟩ = false := free_of B33.out
                have e2 : w27.cell? ⟨b23, 2, none⟩ = some (.int .i64 0) := cell_of B33.out
                have f2 : w27.frozen? ⟨b23, 2, none⟩ = false := free_of B33.out
                have e3 : w27.cell? ⟨b23, 3, none⟩ = some (.int .i64 0) := cell_of B33.out
                have f3 : w27.frozen? ⟨b23, 3, none⟩ = false := free_of B33.out
                have e4 : w27.cell? ⟨b23, 4, none⟩ = some (.slice none 0 0) := cell_of B33.out
                have f4 : w27.frozen? ⟨b23, 4, none⟩ = false := free_of B33.out
                have e5 : w27.cell? ⟨b23, 5, none⟩ = some (.slice none 0 0) := cell_of B33.out
                have f5 : w27.frozen? ⟨b23, 5, none⟩ = false := free_of B33.out
                refine wpAnyH_ready (rs := [10]) (by kernel_rfl) (by simp) ?_
                refine next_at (i := 10) rfl (fun KK hKK => ?_) AllReadyH.nil
                go_simp
                obtain ⟨hz1, hz2, hz3, hz4⟩ := six_sets (v0 := .slice (some ⟨b5, 0, none⟩) 0 0) (v1 := .slice (some ⟨b29, 0, none⟩) 0 0) (v2 := .int .i64 0) (v3 := .int .i64 (-1)) (v4 := .slice none 0 0) (v5 := .slice none 0 0) B33.out _ rfl
                have hlow := hz4 w5.heap.size (fun u => Low w5.heap.size w5 u) (Inv.low w5.heap.size w5 (Nat.le_refl _)) HB25.out L28.out
                have hgf : b5 ≠ b23 := by
                  rintro rfl
                  have h1 := B33.out
                  rw [B32.out] at h1; cases h1
                have hga : b29 ≠ b23 := by
                  rintro rfl
                  have h1 := B33.out
                  rw [B30.out] at h1; cases h1
                have hF9 := (hz2 _ hgf).trans B32.out
                have hG9 := (hz2 _ hga).trans B30.out
                clear hz2 hz3 hz4 hgf hga
                generalize World.setCell _ _ _ = w9 at hz1 hlow hF9 hG9 ⊢
                clear e0 e1 e2 e3 e4 e5 f0 f1 f2 f3 f4 f5
                have RES := Lib.hid (And.intro hlow (And.intro HB25.out (And.intro HB7.out (And.intro HB31.out (And.intro hz1 (And.intro hF9 hG9))))))
                clear hz1 hlow hF9 hG9
                refine hKK.out _ _ (by exact hT) (fun hHeld => ?_)
                clear hKK KK
                (try simp only [Act.put, List.setIfInBounds_toArray, List.set_cons_zero, List.set_cons_succ])
                refine wpAnyH_done (by kernel_rfl) ?_ _
                refine NoPanic.normal ?_
                (try go_wp2_with fail)
                go_meet
                exact ⟨b23, b5, b29, rfl, RES.out⟩
          · obtain ⟨wd34, hwd⟩ : ∃ u, u = w5.drew := ⟨_, rfl⟩
            have LD35 := Lib.hid (show Low w5.heap.size w5 wd34 from hwd ▸ (LZ.out).drew)
            rw [← hwd]
            clear hwd
            go_simp
            have l1 : Low wd34.heap.size wd34 (wd34.alloc (.cells #[] 3)) := (Low.refl _ _).alloc (Nat.le_refl _) _
            have hb := heap_new wd34 (.cells #[] 3)
            have hs := LD35.out.size
            obtain ⟨b38, hq⟩ : ∃ t, t = wd34.heap.size := ⟨_, rfl⟩
            rw [← hq] at hb hs ⊢
            clear hq
            generalize wd34.alloc (.cells #[] 3) = w36 at l1 hb ⊢
            have B39 := Lib.hid hb; have HB40 := Lib.hid hs; have L37 := Lib.hid (LD35.out.trans (l1.mono LD35.out.size))
            clear l1 hb hs
            refine hKK.out _ _ (by exact hT) (fun hHeld => ?_)
            clear hKK KK
            (try simp only [Act.put, List.setIfInBounds_toArray, List.set_cons_zero, List.set_cons_succ])
            refine wpAnyH_ready (rs := [2, 9]) (by kernel_rfl) (by simp) ?_
            refine next_at (i := 2) rfl (fun KK hKK => ?_) (next_at (i := 9) rfl (fun KK hKK => ?_) AllReadyH.nil)
            · go_simp
              have l1 : Low w36.heap.size w36 (w36.alloc (.cells #[] 39)) := (Low.refl _ _).alloc (Nat.le_refl _) _
              have hb := heap_new w36 (.cells #[] 39)
              have hs := L37.out.size
              obtain ⟨b43, hq⟩ : ∃ t, t = w36.heap.size := ⟨_, rfl⟩
              rw [← hq] at hb hs ⊢
              clear hq
              generalize w36.alloc (.cells #[] 39) = w41 at l1 hb ⊢
              have B44 := Lib.hid hb; have HB45 := Lib.hid hs; have L42 := Lib.hid (L37.out.trans (l1.mono L37.out.size))
              have B46 := Lib.hid (l1.some B39.out)
              clear l1 hb hs
              refine hKK.out _ _ (by exact hT) (fun hHeld => ?_)
              clear hKK KK
              (try simp only [Act.put, List.setIfInBounds_toArray, List.set_cons_zero, List.set_cons_succ])
              refine take_at (i := 8) (v := ?_) rfl (by kernel_rfl) (by kernel_rfl) (by kernel_rfl) (fun _ _ _ h => h) (by rfl) ?_ (by assumption) ?_
              rotate_left
              · intro w' hSw; have s0 := hSw; go_simp; (try with_reducible rfl)
              (try simp only [Act.put, List.setIfInBounds_toArray, List.set_cons_zero, List.set_cons_succ])
              refine wpAnyH_ready (rs := [9]) (by kernel_rfl) (by simp) ?_
              refine next_at (i := 9) rfl (fun KK hKK => ?_) AllReadyH.nil
              · go_simp
                have l1 : Low w41.heap.size w41 (w41.alloc (.cells #[.slice none 0 0, .slice none 0 0, .int .i64 0, .int .i64 0, .slice none 0 0, .slice none 0 0] 58)) := (Low.refl _ _).alloc (Nat.le_refl _) _
                have hb := heap_new w41 (.cells #[.slice none 0 0, .slice none 0 0, .int .i64 0, .int .i64 0, .slice none 0 0, .slice none 0 0] 58)
                have hs := L42.out.size
                obtain ⟨b49, hq⟩ : ∃ t, t = w41.heap.size := ⟨_, rfl⟩
                rw [← hq] at hb hs ⊢
                clear hq
                generalize w41.alloc (.cells #[.slice none 0 0, .slice none 0 0, .int .i64 0, .int .i64 0, .slice none 0 0, .slice none 0 0] 58) = w47 at l1 hb ⊢
                have B50 := Lib.hid hb; have HB51 := Lib.hid hs; have L48 := Lib.hid (L42.out.trans (l1.mono L42.out.size))
                have B52 := Lib.hid (l1.some B46.out)
                have B53 := Lib.hid (l1.some B44.out)
                clear l1 hb hs
                refine hKK.out _ _ (by exact hT) (fun hHeld => ?_)
                clear hKK KK
                (try simp only [Act.put, List.setIfInBounds_toArray, List.set_cons_zero, List.set_cons_succ])
                have e0 : w47.cell? ⟨b49, 0, none⟩ = some (.slice none 0 0) := cell_of B50.out
                have f0 : w47.frozen? ⟨b49, 0, none⟩ = false := free_of B50.out
                have e1 : w47.cell? ⟨b49, 1, none⟩ = some (.slice none 0 0) := cell_of B50.out
                have f1 : w47.frozen? ⟨b49, 1, none⟩ = false := free_of B50.out
                have e2 : w47.cell? ⟨b49, 2, none⟩ = some (.int .i64 0) := cell_of B50.out
                have f2 : w47.frozen? ⟨b49, 2, none⟩ = false := free_of B50.out
                have e3 : w47.cell? ⟨b49, 3, none⟩ = some (.int .i64 0) := cell_of B50.out
                have f3 : w47.frozen? ⟨b49, 3, none⟩ = false := free_of B50.out
                have e4 : w47.cell? ⟨b49, 4, none⟩ = some (.slice none 0 0) := cell_of B50.out
                have f4 : w47.frozen? ⟨b49, 4, none⟩ = false := free_of B50.out
                have e5 : w47.cell? ⟨b49, 5, none⟩ = some (.slice none 0 0) := cell_of B50.out
                have f5 : w47.frozen? ⟨b49, 5, none⟩ = false := free_of B50.out
                refine wpAnyH_ready (rs := [10]) (by kernel_rfl) (by simp) ?_
                refine next_at (i := 10) rfl (fun KK hKK => ?_) AllReadyH.nil
                go_simp
                obtain ⟨hz1, hz2, hz3, hz4⟩ := six_sets (v0 := .slice (some ⟨b43, 0, none⟩) 0 0) (v1 := .slice (some ⟨b38, 0, none⟩) 0 0) (v2 := .int .i64 0) (v3 := .int .i64 (-1)) (v4 := .slice none 0 0) (v5 := .slice none 0 0) B50.out _ rfl
                have hlow := hz4 w5.heap.size (fun u => Low w5.heap.size w5 u) (Inv.low w5.heap.size w5 (Nat.le_refl _)) HB51.out L48.out
                have hgf : b43 ≠ b49 := by
                  rintro rfl
                  have h1 := B50.out
                  rw [B53.out] at h1; cases h1
                have hga : b38 ≠ b49 := by
                  rintro rfl
                  have h1 := B50.out
                  rw [B52.out] at h1; cases h1
                have hF9 := (hz2 _ hgf).trans B53.out
                have hG9 := (hz2 _ hga).trans B52.out
                clear hz2 hz3 hz4 hgf hga
                generalize World.setCell _ _ _ = w9 at hz1 hlow hF9 hG9 ⊢
                clear e0 e1 e2 e3 e4 e5 f0 f1 f2 f3 f4 f5
                have RES := Lib.hid (And.intro hlow (And.intro HB51.out (And.intro HB45.out (And.intro HB40.out (And.intro hz1 (And.intro hF9 hG9))))))
                clear hz1 hlow hF9 hG9
                refine hKK.out _ _ (by exact hT) (fun hHeld => ?_)
                clear hKK KK
                (try simp only [Act.put, List.setIfInBounds_toArray, List.set_cons_zero, List.set_cons_succ])
                refine wpAnyH_done (by kernel_rfl) ?_ _
                refine NoPanic.normal ?_
                (try go_wp2_with fail)
                go_meet
                exact ⟨b49, b43, b38, rfl, RES.out⟩
            · go_simp
              have l1 : Low w36.heap.size w36 (w36.alloc (.cells #[.slice none 0 0, .slice none 0 0, .int .i64 0, .int .i64 0, .slice none 0 0, .slice none 0 0] 58)) := (Low.refl _ _).alloc (Nat.le_refl _) _
              have hb := heap_new w36 (.cells #[.slice none 0 0, .slice none 0 0, .int .i64 0, .int .i64 0, .slice none 0 0, .slice none 0 0] 58)
              have hs := L37.out.size
              obtain ⟨b56, hq⟩ : ∃ t, t = w36.heap.size := ⟨_, rfl⟩
              rw [← hq] at hb hs ⊢
              clear hq
              generalize w36.alloc (.cells #[.slice none 0 0, .slice none 0 0, .int .i64 0, .int .i64 0, .slice none 0 0, .slice none 0 0] 58) = w54 at l1 hb ⊢
              have B57 := Lib.hid hb; have HB58 := Lib.hid hs; have L55 := Lib.hid (L37.out.trans (l1.mono L37.out.size))
              have B59 := Lib.hid (l1.some B39.out)
              clear l1 hb hs
              refine hKK.out _ _ (by exact hT) (fun hHeld => ?_)
              clear hKK KK
              (try simp only [Act.put, List.setIfInBounds_toArray, List.set_cons_zero, List.set_cons_succ])
              refine wpAnyH_ready (rs := [2]) (by kernel_rfl) (by simp) ?_
              refine next_at (i := 2) rfl (fun KK hKK => ?_) AllReadyH.nil
              · go_simp
                have l1 : Low w54.heap.size w54 (w54.alloc (.cells #[] 39)) := (Low.refl _ _).alloc (Nat.le_refl _) _
                have hb := heap_new w54 (.cells #[] 39)
                have hs := L55.out.size
                obtain ⟨b62, hq⟩ : ∃ t, t = w54.heap.size := ⟨_, rfl⟩
                rw [← hq] at hb hs ⊢
                clear hq
                generalize w54.alloc (.cells #[] 39) = w60 at l1 hb ⊢
                have B63 := Lib.hid hb; have HB64 := Lib.hid hs; have L61 := Lib.hid (L55.out.trans (l1.mono L55.out.size))
                have B65 := Lib.hid (l1.some B59.out)
                have B66 := Lib.hid (l1.some B57.out)
                clear l1 hb hs
                refine hKK.out _ _ (by exact hT) (fun hHeld => ?_)
                clear hKK KK
                (try simp only [Act.put, List.setIfInBounds_toArray, List.set_cons_zero, List.set_cons_succ])
                refine take_at (i := 8) (v := ?_) rfl (by kernel_rfl) (by kernel_rfl) (by kernel_rfl) (fun _ _ _ h => h) (by rfl) ?_ (by assumption) ?_
                rotate_left
                · intro w' hSw; have s0 := hSw; go_simp; (try with_reducible rfl)
                (try simp only [Act.put, List.setIfInBounds_toArray, List.set_cons_zero, List.set_cons_succ])
                have e0 : w60.cell? ⟨b56, 0, none⟩ = some (.slice none 0 0) := cell_of B66.out
                have f0 : w60.frozen? ⟨b56, 0, none⟩ = false := free_of B66.out
                have e1 : w60.cell? ⟨b56, 1, none⟩ = some (.slice none 0 0) := cell_of B66.out
                have f1 : w60.frozen? ⟨b56, 1, none⟩ = false := free_of B66.out
                have e2 : w60.cell? ⟨b56, 2, none⟩ = some (.int .i64 0) := cell_of B66.out
                have f2 : w60.frozen? ⟨b56, 2, none⟩ = false := free_of B66.out
                have e3 : w60.cell? ⟨b56, 3, none⟩ = some (.int .i64 0) := cell_of B66.out
                have f3 : w60.frozen? ⟨b56, 3, none⟩ = false := free_of B66.out
                have e4 : w60.cell? ⟨b56, 4, none⟩ = some (.slice none 0 0) := cell_of B66.out
                have f4 : w60.frozen? ⟨b56, 4, none⟩ = false := free_of B66.out
                have e5 : w60.cell? ⟨b56, 5, none⟩ = some (.slice none 0 0) := cell_of B66.out
                have f5 : w60.frozen? ⟨b56, 5, none⟩ = false := free_of B66.out
                refine wpAnyH_ready (rs := [10]) (by kernel_rfl) (by simp) ?_
                refine next_at (i := 10) rfl (fun KK hKK => ?_) AllReadyH.nil
                go_simp
                obtain ⟨hz1, hz2, hz3, hz4⟩ := six_sets (v0 := .slice (some ⟨b62, 0, none⟩) 0 0) (v1 := .slice (some ⟨b38, 0, none⟩) 0 0) (v2 := .int .i64 0) (v3 := .int .i64 (-1)) (v4 := .slice none 0 0) (v5 := .slice none 0 0) B66.out _ rfl
                have hlow := hz4 w5.heap.size (fun u => Low w5.heap.size w5 u) (Inv.low w5.heap.size w5 (Nat.le_refl _)) HB58.out L61.out
                have hgf : b62 ≠ b56 := by
                  rintro rfl
                  have h1 := B66.out
                  rw [B63.out] at h1; cases h1
                have hga : b38 ≠ b56 := by
                  rintro rfl
                  have h1 := B66.out
                  rw [B65.out] at h1; cases h1
                have hF9 := (hz2 _ hgf).trans B63.out
                have hG9 := (hz2 _ hga).trans B65.out
                clear hz2 hz3 hz4 hgf hga
                generalize World.setCell _ _ _ = w9 at hz1 hlow hF9 hG9 ⊢
                clear e0 e1 e2 e3 e4 e5 f0 f1 f2 f3 f4 f5
                have RES := Lib.hid (And.intro hlow (And.intro HB58.out (And.intro HB64.out (And.intro HB40.out (And.intro hz1 (And.intro hF9 hG9))))))
                clear hz1 hlow hF9 hG9
                refine hKK.out _ _ (by exact hT) (fun hHeld => ?_)
                clear hKK KK
                (try simp only [Act.put, List.setIfInBounds_toArray, List.set_cons_zero, List.set_cons_succ])
                refine wpAnyH_done (by kernel_rfl) ?_ _
                refine NoPanic.normal ?_
                (try go_wp2_with fail)
                go_meet
                exact ⟨b56, b62, b38, rfl, RES.out⟩
          · obtain ⟨wd67, hwd⟩ : ∃ u, u = w5.drew := ⟨_, rfl⟩
            have LD68 := Lib.hid (show Low w5.heap.size w5 wd67 from hwd ▸ (LZ.out).drew)
            rw [← hwd]
            clear hwd
            go_simp
            have l1 : Low wd67.heap.size wd67 (wd67.alloc (.cells #[.slice none 0 0, .slice none 0 0, .int .i64 0, .int .i64 0, .slice none 0 0, .slice none 0 0] 58)) := (Low.refl _ _).alloc (Nat.le_refl _) _
            have hb := heap_new wd67 (.cells #[.slice none 0 0, .slice none 0 0, .int .i64 0, .int .i64 0, .slice none 0 0, .slice none 0 0] 58)
            have hs := LD68.out.size
            obtain ⟨b71, hq⟩ : ∃ t, t = wd67.heap.size := ⟨_, rfl⟩
            rw [← hq] at hb hs ⊢
            clear hq
            generalize wd67.alloc (.cells #[.slice none 0 0, .slice none 0 0, .int .i64 0, .int .i64 0, .slice none 0 0, .slice none 0 0] 58) = w69 at l1 hb ⊢
            have B72 := Lib.hid hb; have HB73 := Lib.hid hs; have L70 := Lib.hid (LD68.out.trans (l1.mono LD68.out.size))
            clear l1 hb hs
            refine hKK.out _ _ (by exact hT) (fun hHeld => ?_)
            clear hKK KK
            (try simp only [Act.put, List.setIfInBounds_toArray, List.set_cons_zero, List.set_cons_succ])
            refine wpAnyH_ready (rs := [2, 5]) (by kernel_rfl) (by simp) ?_
            refine next_at (i := 2) rfl (fun KK hKK => ?_) (next_at (i := 5) rfl (fun KK hKK => ?_) AllReadyH.nil)
            · go_simp
              have l1 : Low w69.heap.size w69 (w69.alloc (.cells #[] 39)) := (Low.refl _ _).alloc (Nat.le_refl _) _
              have hb := heap_new w69 (.cells #[] 39)
              have hs := L70.out.size
              obtain ⟨b76, hq⟩ : ∃ t, t = w69.heap.size := ⟨_, rfl⟩
              rw [← hq] at hb hs ⊢
              clear hq
              generalize w69.alloc (.cells #[] 39) = w74 at l1 hb ⊢
              have B77 := Lib.hid hb; have HB78 := Lib.hid hs; have L75 := Lib.hid (L70.out.trans (l1.mono L70.out.size))
              have B79 := Lib.hid (l1.some B72.out)
              clear l1 hb hs
              refine hKK.out _ _ (by exact hT) (fun hHeld => ?_)
              clear hKK KK
              (try simp only [Act.put, List.setIfInBounds_toArray, List.set_cons_zero, List.set_cons_succ])
              refine wpAnyH_ready (rs := [5]) (by kernel_rfl) (by simp) ?_
              refine next_at (i := 5) rfl (fun KK hKK => ?_) AllReadyH.nil
              · go_simp
                have l1 : Low w74.heap.size w74 (w74.alloc (.cells #[] 3)) := (Low.refl _ _).alloc (Nat.le_refl _) _
                have hb := heap_new w74 (.cells #[] 3)
                have hs := L75.out.size
                obtain ⟨b82, hq⟩ : ∃ t, t = w74.heap.size := ⟨_, rfl⟩
                rw [← hq] at hb hs ⊢
                clear hq
                generalize w74.alloc (.cells #[] 3) = w80 at l1 hb ⊢
                have B83 := Lib.hid hb; have HB84 := Lib.hid hs; have L81 := Lib.hid (L75.out.trans (l1.mono L75.out.size))
                have B85 := Lib.hid (l1.some B79.out)
                have B86 := Lib.hid (l1.some B77.out)
                clear l1 hb hs
                refine hKK.out _ _ (by exact hT) (fun hHeld => ?_)
                clear hKK KK
                (try simp only [Act.put, List.setIfInBounds_toArray, List.set_cons_zero, List.set_cons_succ])
                refine take_at (i := 8) (v := ?_) rfl (by kernel_rfl) (by kernel_rfl) (by kernel_rfl) (fun _ _ _ h => h) (by rfl) ?_ (by assumption) ?_
                rotate_left
                · intro w' hSw; have s0 := hSw; go_simp; (try with_reducible rfl)
                (try simp only [Act.put, List.setIfInBounds_toArray, List.set_cons_zero, List.set_cons_succ])
                have e0 : w80.cell? ⟨b71, 0, none⟩ = some (.slice none 0 0) := cell_of B85.out
                have f0 : w80.frozen? ⟨b71, 0, none⟩ = false := free_of B85.out
                have e1 : w80.cell? ⟨b71, 1, none⟩ = some (.slice none 0 0) := cell_of B85.out
                have f1 : w80.frozen? ⟨b71, 1, none⟩ = false := free_of B85.out
                have e2 : w80.cell? ⟨b71, 2, none⟩ = some (.int .i64 0) := cell_of B85.out
                have f2 : w80.frozen? ⟨b71, 2, none⟩ = false := free_of B85.out
                have e3 : w80.cell? ⟨b71, 3, none⟩ = some (.int .i64 0) := cell_of B85.out
                have f3 : w80.frozen? ⟨b71, 3, none⟩ = false := free_of B85.out
                have e4 : w80.cell? ⟨b71, 4, none⟩ = some (.slice none 0 0) := cell_of B85.out
                have f4 : w80.frozen? ⟨b71, 4, none⟩ = false := free_of B85.out
                have e5 : w80.cell? ⟨b71, 5, none⟩ = some (.slice none 0 0) := cell_of B85.out
                have f5 : w80.frozen? ⟨b71, 5, none⟩ = false := free_of B85.out
                refine wpAnyH_ready (rs := [10]) (by kernel_rfl) (by simp) ?_
                refine next_at (i := 10) rfl (fun KK hKK => ?_) AllReadyH.nil
                go_simp
                obtain ⟨hz1, hz2, hz3, hz4⟩ := six_sets (v0 := .slice (some ⟨b76, 0, none⟩) 0 0) (v1 := .slice (some ⟨b82, 0, none⟩) 0 0) (v2 := .int .i64 0) (v3 := .int .i64 (-1)) (v4 := .slice none 0 0) (v5 := .slice none 0 0) B85.out _ rfl
                have hlow := hz4 w5.heap.size (fun u => Low w5.heap.size w5 u) (Inv.low w5.heap.size w5 (Nat.le_refl _)) HB73.out L81.out
                have hgf : b76 ≠ b71 := by
                  rintro rfl
                  have h1 := B85.out
                  rw [B86.out] at h1; cases h1
                have hga : b82 ≠ b71 := by
                  rintro rfl
                  have h1 := B85.out
                  rw [B83.out] at h1; cases h1
                have hF9 := (hz2 _ hgf).trans B86.out
                have hG9 := (hz2 _ hga).trans B83.out
                clear hz2 hz3 hz4 hgf hga
                generalize World.setCell _ _ _ = w9 at hz1 hlow hF9 hG9 ⊢
                clear e0 e1 e2 e3 e4 e5 f0 f1 f2 f3 f4 f5
                have RES := Lib.hid (And.intro hlow (And.intro HB73.out (And.intro HB78.out (And.intro HB84.out (And.intro hz1 (And.intro hF9 hG9))))))
                clear hz1 hlow hF9 hG9
                refine hKK.out _ _ (by exact hT) (fun hHeld => ?_)
                clear hKK KK
                (try simp only [Act.put, List.setIfInBounds_toArray, List.set_cons_zero, List.set_cons_succ])
                refine wpAnyH_done (by kernel_rfl) ?_ _
                refine NoPanic.normal ?_
                (try go_wp2_with fail)
                go_meet
                exact ⟨b71, b76, b82, rfl, RES.out⟩
            · go_simp
              have l1 : Low w69.heap.size w69 (w69.alloc (.cells #[] 3)) := (Low.refl _ _).alloc (Nat.le_refl _) _
              have hb := heap_new w69 (.cells #[] 3)
              have hs := L70.out.size
              obtain ⟨b89, hq⟩ : ∃ t, t = w69.heap.size := ⟨_, rfl⟩
              rw [← hq] at hb hs ⊢
              clear hq
              generalize w69.alloc (.cells #[] 3) = w87 at l1 hb ⊢
              have B90 := Lib.hid hb; have HB91 := Lib.hid hs; have L88 := Lib.hid (L70.out.trans (l1.mono L70.out.size))
              have B92 := Lib.hid (l1.some B72.out)
              clear l1 hb hs
              refine hKK.out _ _ (by exact hT) (fun hHeld => ?_)
              clear hKK KK
              (try simp only [Act.put, List.setIfInBounds_toArray, List.set_cons_zero, List.set_cons_succ])
              refine wpAnyH_ready (rs := [2]) (by kernel_rfl) (by simp) ?_
              refine next_at (i := 2) rfl (fun KK hKK => ?_) AllReadyH.nil
              · go_simp
                have l1 : Low w87.heap.size w87 (w87.alloc (.cells #[] 39)) := (Low.refl _ _).alloc (Nat.le_refl _) _
                have hb := heap_new w87 (.cells #[] 39)
                have hs := L88.out.size
                obtain ⟨b95, hq⟩ : ∃ t, t = w87.heap.size := ⟨_, rfl⟩
                rw [← hq] at hb hs ⊢
                clear hq
                generalize w87.alloc (.cells #[] 39) = w93 at l1 hb ⊢
                have B96 := Lib.hid hb; have HB97 := Lib.hid hs; have L94 := Lib.hid (L88.out.trans (l1.mono L88.out.size))
                have B98 := Lib.hid (l1.some B92.out)
                have B99 := Lib.hid (l1.some B90.out)
                clear l1 hb hs
                refine hKK.out _ _ (by exact hT) (fun hHeld => ?_)
                clear hKK KK
                (try simp only [Act.put, List.setIfInBounds_toArray, List.set_cons_zero, List.set_cons_succ])
                refine take_at (i := 8) (v := ?_) rfl (by kernel_rfl) (by kernel_rfl) (by kernel_rfl) (fun _ _ _ h => h) (by rfl) ?_ (by assumption) ?_
                rotate_left
                · intro w' hSw; have s0 := hSw; go_simp; (try with_reducible rfl)
                (try simp only [Act.put, List.setIfInBounds_toArray, List.set_cons_zero, List.set_cons_succ])
                have e0 : w93.cell? ⟨b71, 0, none⟩ = some (.slice none 0 0) := cell_of B98.out
                have f0 : w93.frozen? ⟨b71, 0, none⟩ = false := free_of B98.out
                have e1 : w93.cell? ⟨b71, 1, none⟩ = some (.slice none 0 0) := cell_of B98.out
                have f1 : w93.frozen? ⟨b71, 1, none⟩ = false := free_of B98.out
                have e2 : w93.cell? ⟨b71, 2, none⟩ = some (.int .i64 0) := cell_of B98.out
                have f2 : w93.frozen? ⟨b71, 2, none⟩ = false := free_of B98.out
                have e3 : w93.cell? ⟨b71, 3, none⟩ = some (.int .i64 0) := cell_of B98.out
                have f3 : w93.frozen? ⟨b71, 3, none⟩ = false := free_of B98.out
                have e4 : w93.cell? ⟨b71, 4, none⟩ = some (.slice none 0 0) := cell_of B98.out
                have f4 : w93.frozen? ⟨b71, 4, none⟩ = false := free_of B98.out
                have e5 : w93.cell? ⟨b71, 5, none⟩ = some (.slice none 0 0) := cell_of B98.out
                have f5 : w93.frozen? ⟨b71, 5, none⟩ = false := free_of B98.out
                refine wpAnyH_ready (rs := [10]) (by kernel_rfl) (by simp) ?_
                refine next_at (i := 10) rfl (fun KK hKK => ?_) AllReadyH.nil
                go_simp
                obtain ⟨hz1, hz2, hz3, hz4⟩ := six_sets (v0 := .slice (some ⟨b95, 0, none⟩) 0 0) (v1 := .slice (some ⟨b89, 0, none⟩) 0 0) (v2 := .int .i64 0) (v3 := .int .i64 (-1)) (v4 := .slice none 0 0) (v5 := .slice none 0 0) B98.out _ rfl
                have hlow := hz4 w5.heap.size (fun u => Low w5.heap.size w5 u) (Inv.low w5.heap.size w5 (Nat.le_refl _)) HB73.out L94.out
                have hgf : b95 ≠ b71 := by
                  rintro rfl
                  have h1 := B98.out
                  rw [B96.out] at h1; cases h1
                have hga : b89 ≠ b71 := by
                  rintro rfl
                  have h1 := B98.out
                  rw [B99.out] at h1; cases h1
                have hF9 := (hz2 _ hgf).trans B96.out
                have hG9 := (hz2 _ hga).trans B99.out
                clear hz2 hz3 hz4 hgf hga
                generalize World.setCell _ _ _ = w9 at hz1 hlow hF9 hG9 ⊢
                clear e0 e1 e2 e3 e4 e5 f0 f1 f2 f3 f4 f5
                have RES := Lib.hid (And.intro hlow (And.intro HB73.out (And.intro HB97.out (And.intro HB91.out (And.intro hz1 (And.intro hF9 hG9))))))
                clear hz1 hlow hF9 hG9
                refine hKK.out _ _ (by exact hT) (fun hHeld => ?_)
                clear hKK KK
                (try simp only [Act.put, List.setIfInBounds_toArray, List.set_cons_zero, List.set_cons_succ])
                refine wpAnyH_done (by kernel_rfl) ?_ _
                refine NoPanic.normal ?_
                (try go_wp2_with fail)
                go_meet
                exact ⟨b71, b95, b89, rfl, RES.out⟩
        case rest =>
          obtain ⟨t11, gf, ga, rfl, l6, ht11, hgf, hga, hT6, hF6, hG6⟩ := hcut
          obtain ⟨w6, rfl⟩ : ∃ u, u = wc := ⟨_, rfl⟩
          have L6 := Lib.hid l6; have T6 := Lib.hid hT6; have F6 := Lib.hid hF6; have G6 := Lib.hid hG6; have M6 := Lib.hid (M5.out.keep (l6.block _ (heap_lt M5.out)))
          have HT11 := Lib.hid ht11; have HGF := Lib.hid hgf; have HGA := Lib.hid hga
          clear l6 hT6 hF6 hG6 ht11 hgf hga hmkf hmka LZ hT
          obtain ⟨ob1, hrg, a, rfl⟩ := range_empty (P := Tryz.prog) (t := 53) Tryz.underlying53 (show Empty w6 cm from ⟨0, M6.out⟩)
          have l7 : Low w6.heap.size w6 (w6.alloc (.mapIter (some cm) a #[] a)) := (Low.refl _ w6).alloc (Nat.le_refl _) _
          have hnx : ∀ ty, (Instr.next (.pointer (some ⟨w6.heap.size, 0, none⟩)) false ty).run Tryz.prog (w6.alloc (.mapIter (some cm) a #[] a)) = .ok (.tuple #[.bool false]) (w6.alloc (.mapIter (some cm) a #[] a)) := fun ty => next_empty (heap_new _ _) ⟨0, l7.some M6.out⟩
          have L7 := Lib.hid (L6.out.trans (l7.mono L6.out.size)); have T7 := Lib.hid (l7.some T6.out); have F7 := Lib.hid (l7.some F6.out); have G7 := Lib.hid (l7.some G6.out)
          clear l7
          go_upto_region 23 with fail
          clear hrg
          generalize w6.heap.size = r6 at hnx ⊢
          generalize w6.alloc (.mapIter (some cm) a #[] a) = w7 at hnx L7 T7 F7 G7 ⊢
          go_loopw [12] (fun _ wr => wr = w7) (fun _ _ => 0)
          case atStart => rfl
          case round =>
            obtain rfl := hrel
            obtain ⟨w7, rfl⟩ : ∃ u, u = wr := ⟨_, rfl⟩
            go_upto_region 26 with fail
            clear hnx
            have y11 : w7.cell? ⟨t11, 0, none⟩ = some (.slice (some ⟨gf, 0, none⟩) 0 0) := cell_of T7.out
            have y10 : w7.cell? ⟨t10, 0, none⟩ = some (.slice (some ⟨gh, 0, none⟩) 1 1) := cell_of (L7.out.some X5.out)
            have y1 : w7.cell? ⟨t1, 0, none⟩ = some (.slice (some ⟨g, 0, none⟩) 1 cg) := cell_of (L7.out.some A5.out)
            have hbs : ∀ u : World, (Instr.buildSlice 54 2 #[(0, .agg #[.slice (some ⟨gh, 0, none⟩) 1 1]), (1, .agg #[.slice (some ⟨g, 0, none⟩) 1 cg])]).run Tryz.prog u = .ok (.slice (some ⟨u.heap.size, 0, none⟩) 2 2) (u.alloc (.cells #[.slice (some ⟨gh, 0, none⟩) 1 1, .slice (some ⟨g, 0, none⟩) 1 cg] 39)) := fun u => by kernel_rfl
            have la : Low w7.heap.size w7 (w7.alloc (.cells #[.slice (some ⟨gh, 0, none⟩) 1 1, .slice (some ⟨g, 0, none⟩) 1 cg] 39)) := (Low.refl _ _).alloc (Nat.le_refl _) _
            have hown : Own (w7.alloc (.cells #[.slice (some ⟨gh, 0, none⟩) 1 1, .slice (some ⟨g, 0, none⟩) 1 cg] 39)) w5.heap.size 39 1 (.slice (some ⟨gf, 0, none⟩) 0 0) 0 [] := ⟨rfl, .inr ⟨gf, 0, #[], rfl, HGF.out, la.some F7.out, Nat.le_refl _, by decide, rfl, rfl⟩⟩
            have OW := Lib.hid hown; have TA := Lib.hid (la.some T7.out); have GA := Lib.hid (la.some G7.out); have LA := Lib.hid (L7.out.trans (la.mono L7.out.size))
            have HNT := Lib.hid (show t11 ≠ gf from by
              rintro rfl
              have h1 := T7.out
              rw [F7.out] at h1; cases h1)
            have HNG := Lib.hid (show ga ≠ gf from by
              rintro rfl
              have h1 := G7.out
              rw [F7.out] at h1; cases h1)
            clear hown la
            go_upto_region 27 with (first
              | (at_builtin; refine wpList_app1 (w := w7.alloc (.cells #[.slice (some ⟨gh, 0, none⟩) 1 1, .slice (some ⟨g, 0, none⟩) 1 cg] 39)) (P := Tryz.prog) (base := w5.heap.size) (n := 0) (m := 2) (xs := []) ap54 rfl (.tmp 110) (.tmp 113) rfl rfl OW.out rfl (heap_new w7 _) rfl (by simp [Value.oneCell']) (by omega) LA.out.size ?_; intro v10 w10 happ0; have happ : App1 (w7.alloc (.cells #[.slice (some ⟨gh, 0, none⟩) 1 1, .slice (some ⟨g, 0, none⟩) 1 cg] 39)) w10 w5.heap.size 39 1 (.slice (some ⟨gf, 0, none⟩) 0 0) v10 0 [] 2 [.slice (some ⟨gh, 0, none⟩) 1 1, .slice (some ⟨g, 0, none⟩) 1 cg] := happ0; clear happ0; obtain ⟨gF, cF, csF, rfl, hgF, hF10, hcF, hown⟩ := happ.row (k := 2) rfl (by decide); have hk : ∀ b, b < (w7.alloc (.cells #[.slice (some ⟨gh, 0, none⟩) 1 1, .slice (some ⟨g, 0, none⟩) 1 cg] 39)).heap.size → b ≠ gf → w10.heap[b]? = (w7.alloc (.cells #[.slice (some ⟨gh, 0, none⟩) 1 1, .slice (some ⟨g, 0, none⟩) 1 cg] 39)).heap[b]? := fun b hb hne => happ.block b hb (by simpa [Value.ownBlock] using hne); have t10x := (hk t11 (heap_lt TA.out) HNT.out).trans TA.out; have x10 : w10.cell? ⟨t11, 0, none⟩ = some (.slice (some ⟨gf, 0, none⟩) 0 0) := cell_of t10x; have f10 : w10.frozen? ⟨t11, 0, none⟩ = false := free_of t10x; have T10 := Lib.hid t10x; have G10 := Lib.hid ((hk ga (heap_lt GA.out) HNG.out).trans GA.out); have L10 := Lib.hid (LA.out.trans (happ.low OW.out (Nat.le_refl _) LA.out.size)); have F10 := Lib.hid hF10; have OWN := Lib.hid hown; have HCF := Lib.hid hcF; have HGF2 := Lib.hid hgF; clear happ hk t10x hF10 hown hcF hgF y11 y10 y1))
            have k0 := Lib.hid (show csF[0]? = some (.slice (some ⟨gh, 0, none⟩) 1 1) from (cell_of F10.out).symm.trans (OWN.out.cell (j := 0) rfl))
            have k1 := Lib.hid (show csF[1]? = some (.slice (some ⟨g, 0, none⟩) 1 cg) from (cell_of F10.out).symm.trans (OWN.out.cell (j := 1) rfl))
            have hgt : gF ≠ t11 := by
              rintro rfl
              have h1 := T10.out
              rw [F10.out] at h1; cases h1
            have hat : ga ≠ t11 := by
              rintro rfl
              have h1 := T10.out
              rw [G10.out] at h1; cases h1
            have hb11 := set_blk (i := 0) (v := .slice (some ⟨gF, 0, none⟩) 2 cF) T10.out
            have F11 := Lib.hid ((set_other (i := 0) (v := .slice (some ⟨gF, 0, none⟩) 2 cF) hgt).trans F10.out); have G11 := Lib.hid ((set_other (i := 0) (v := .slice (some ⟨gF, 0, none⟩) 2 cF) hat).trans G10.out)
            have L11 := Lib.hid (L10.out.setCell (g := t11) (i := 0) HT11.out (.slice (some ⟨gF, 0, none⟩) 2 cF))
            have T11 := Lib.hid (show (w10.setCell ⟨t11, 0, none⟩ (.slice (some ⟨gF, 0, none⟩) 2 cF)).heap[t11]? = some (.cells #[.slice (some ⟨gF, 0, none⟩) 2 cF, .slice (some ⟨ga, 0, none⟩) 0 0, .int .i64 0, .int .i64 (-1), .slice none 0 0, .slice none 0 0] 58 (0, 0)) from hb11)
            clear hgt hat hb11 x10 f10 hbs
            generalize w10.setCell ⟨t11, 0, none⟩ (.slice (some ⟨gF, 0, none⟩) 2 cF) = w11 at F11 G11 L11 T11 ⊢
            have hbs : ∀ u : World, (Instr.buildSlice 22 2 #[(0, .int .i64 0), (1, .int .i64 1)]).run Tryz.prog u = .ok (.slice (some ⟨u.heap.size, 0, none⟩) 2 2) (u.alloc (.cells #[.int .i64 0, .int .i64 1] 3)) := fun u => by kernel_rfl
            have hS11 : w11.cell? ⟨t1, 0, none⟩ = some (.slice (some ⟨g, 0, none⟩) 1 cg) ∧ w11.cell? ⟨g, 0, none⟩ = some (.slice Pp 1 pc) := ⟨cell_of (L11.out.some A5.out), by
              obtain ⟨cs0, r0, r1, _⟩ := (H5.out.low L11.out).row
              exact (cell_of r0).trans r1⟩
            go_cut [] (fun wx => ∃ gA cA csA, wx.heap[t11]? = some (.cells #[.slice (some ⟨gF, 0, none⟩) 2 cF, .slice (some ⟨gA, 0, none⟩) 2 cA, .int .i64 0, .int .i64 (-1), .slice none 0 0, .slice none 0 0] 58 (0, 0)) ∧ Low w5.heap.size w5 wx ∧ wx.heap[gF]? = some (.cells csF 39 (0, 0)) ∧ wx.heap[gA]? = some (.cells csA 3 (0, 0)) ∧ csA[0]? = some (.int .i64 0) ∧ csA[1]? = some (.int .i64 1))
            case first =>
              refine wp_region_noPanic ?_
              refine wp_region_held_drew (S := fun w' => w'.cell? ⟨t1, 0, none⟩ = some (.slice (some ⟨g, 0, none⟩) 1 cg) ∧ w'.cell? ⟨g, 0, none⟩ = some (.slice Pp 1 pc)) (by kernel_rfl) (by exact hS11) (fun hHeld => ?_)
              refine take_at (i := 0) (v := ?_) rfl (by kernel_rfl) (by kernel_rfl) (by kernel_rfl) (fun _ _ _ h => h) (by rfl) ?_ (by assumption) ?_
              rotate_left
              · intro w' hSw; obtain ⟨s0, s1⟩ := hSw; go_simp; (try with_reducible rfl)
              (try simp only [Act.put, List.setIfInBounds_toArray, List.set_cons_zero, List.set_cons_succ])
              refine take_at (i := 2) (v := ?_) rfl (by kernel_rfl) (by kernel_rfl) (by kernel_rfl) (fun _ _ _ h => h) (by rfl) ?_ (by assumption) ?_
              rotate_left
              · intro w' hSw; obtain ⟨s0, s1⟩ := hSw; go_simp; (try with_reducible rfl)
              (try simp only [Act.put, List.setIfInBounds_toArray, List.set_cons_zero, List.set_cons_succ])
              refine take_at (i := 3) (v := ?_) rfl (by kernel_rfl) (by kernel_rfl) (by kernel_rfl) (fun _ _ _ h => h) (by rfl) ?_ (by assumption) ?_
              rotate_left
              · intro w' hSw; obtain ⟨s0, s1⟩ := hSw; go_simp; (try with_reducible rfl)
              (try simp only [Act.put, List.setIfInBounds_toArray, List.set_cons_zero, List.set_cons_succ])
              refine take_at (i := 4) (v := ?_) rfl (by kernel_rfl) (by kernel_rfl) (by kernel_rfl) (fun _ _ _ h => h) (by rfl) ?_ (by assumption) ?_
              rotate_left
              · intro w' hSw; obtain ⟨s0, s1⟩ := hSw; go_simp; (try with_reducible rfl)
              (try simp only [Act.put, List.setIfInBounds_toArray, List.set_cons_zero, List.set_cons_succ])
              refine take_at (i := 5) (v := ?_) rfl (by kernel_rfl) (by kernel_rfl) (by kernel_rfl) (fun _ _ _ h => h) (by rfl) ?_ (by assumption) ?_
              rotate_left
              · intro w' hSw; obtain ⟨s0, s1⟩ := hSw; go_simp; (try with_reducible rfl)
              (try simp only [Act.put, List.setIfInBounds_toArray, List.set_cons_zero, List.set_cons_succ])
              refine take_at (i := 6) (v := ?_) rfl (by kernel_rfl) (by kernel_rfl) (by kernel_rfl) (fun _ _ _ h => h) (by rfl) ?_ (by assumption) ?_
              rotate_left
              · intro w' hSw; obtain ⟨s0, s1⟩ := hSw; go_simp; (try with_reducible rfl)
              (try simp only [Act.put, List.setIfInBounds_toArray, List.set_cons_zero, List.set_cons_succ])
              refine take_at (i := 7) (v := ?_) rfl (by kernel_rfl) (by kernel_rfl) (by kernel_rfl) (fun _ _ _ h => h) (by rfl) ?_ (by assumption) ?_
              rotate_left
              · intro w' hSw; obtain ⟨s0, s1⟩ := hSw; go_simp; (try with_reducible rfl)
              (try simp only [Act.put, List.setIfInBounds_toArray, List.set_cons_zero, List.set_cons_succ])
              refine wpAnyH_ready (rs := [1, 8]) (by kernel_rfl) (by simp) ?_
              refine next_at (i := 1) rfl (fun KK hKK => ?_) (next_at (i := 8) rfl (fun KK hKK => ?_) AllReadyH.nil)
              · obtain ⟨wd, hwd⟩ : ∃ u, u = w11.drew := ⟨_, rfl⟩
                have ld : Low w11.heap.size w11 wd := hwd ▸ (Low.refl _ w11).drew
                rw [← hwd]
                clear hwd
                have LD := Lib.hid (L11.out.trans (ld.mono L11.out.size)); have TD := Lib.hid (ld.some T11.out); have FD := Lib.hid (ld.some F11.out); have GD := Lib.hid (ld.some G11.out)
                clear ld
                have xg : (wd).cell? ⟨t11, 1, none⟩ = some (.slice (some ⟨ga, 0, none⟩) 0 0) := cell_of TD.out
                have hSd : wd.cell? ⟨t1, 0, none⟩ = some (.slice (some ⟨g, 0, none⟩) 1 cg) ∧ wd.cell? ⟨g, 0, none⟩ = some (.slice Pp 1 pc) := ⟨cell_of (LD.out.some A5.out), by
                  obtain ⟨cs0, r0, r1, _⟩ := (H5.out.low LD.out).row
                  exact (cell_of r0).trans r1⟩
                go_simp
                refine hKK.out _ _ (by exact hSd) (fun hHeld => ?_)
                clear hKK KK
                (try simp only [Act.put, List.setIfInBounds_toArray, List.set_cons_zero, List.set_cons_succ])
                clear xg
                refine wpAnyH_ready (rs := [8]) (by kernel_rfl) (by simp) ?_
                refine next_at (i := 8) rfl (fun KK hKK => ?_) AllReadyH.nil
                have la : Low wd.heap.size wd (wd.alloc (.cells #[.int .i64 0, .int .i64 1] 3)) := (Low.refl _ _).alloc (Nat.le_refl _) _
                have hown : Own (wd.alloc (.cells #[.int .i64 0, .int .i64 1] 3)) w5.heap.size 3 1 (.slice (some ⟨ga, 0, none⟩) 0 0) 0 [] := ⟨rfl, .inr ⟨ga, 0, #[], rfl, HGA.out, la.some GD.out, Nat.le_refl _, by decide, rfl, rfl⟩⟩
                have OW2 := Lib.hid hown; have TA2 := Lib.hid (la.some TD.out); have FA2 := Lib.hid (la.some FD.out); have GA2 := Lib.hid (la.some GD.out); have LA2 := Lib.hid (LD.out.trans (la.mono LD.out.size)); have XA2 := Lib.hid (heap_new wd (.cells #[.int .i64 0, .int .i64 1] 3))
                have hSa : (wd.alloc (.cells #[.int .i64 0, .int .i64 1] 3)).cell? ⟨t1, 0, none⟩ = some (.slice (some ⟨g, 0, none⟩) 1 cg) ∧ (wd.alloc (.cells #[.int .i64 0, .int .i64 1] 3)).cell? ⟨g, 0, none⟩ = some (.slice Pp 1 pc) := ⟨cell_of (LA2.out.some A5.out), by
                  obtain ⟨cs0, r0, r1, _⟩ := (H5.out.low LA2.out).row
                  exact (cell_of r0).trans r1⟩
                clear hown la
                go_simp
                refine hKK.out _ _ (by exact hSa) (fun hHeld => ?_)
                clear hKK KK
                (try simp only [Act.put, List.setIfInBounds_toArray, List.set_cons_zero, List.set_cons_succ])
                refine wpAnyH_ready (rs := [9]) (by kernel_rfl) (by simp) ?_
                refine next_at (i := 9) rfl (fun KK hKK => ?_) AllReadyH.nil
                refine step_app1 (w := wd.alloc (.cells #[.int .i64 0, .int .i64 1] 3)) (P := Tryz.prog) (base := w5.heap.size) (n := 0) (m := 2) (xs := []) ap22 rfl (.tmp 117) (.tmp 124) rfl rfl OW2.out rfl XA2.out rfl (by simp [Value.oneCell']) (by omega) LA2.out.size ?_
                intro vA w13 happ0
                have happ : App1 (wd.alloc (.cells #[.int .i64 0, .int .i64 1] 3)) w13 w5.heap.size 3 1 (.slice (some ⟨ga, 0, none⟩) 0 0) vA 0 [] 2 [.int .i64 0, .int .i64 1] := happ0
                clear happ0
                obtain ⟨gA, cA, csA, rfl, hgA, hA13, hcA, hown⟩ := happ.row (k := 2) rfl (by decide)
                have hk : ∀ b, b < (wd.alloc (.cells #[.int .i64 0, .int .i64 1] 3)).heap.size → b ≠ ga → w13.heap[b]? = (wd.alloc (.cells #[.int .i64 0, .int .i64 1] 3)).heap[b]? := fun b hb hne => happ.block b hb (by simpa [Value.ownBlock] using hne)
                have hta : t11 ≠ ga := by
                  rintro rfl
                  have h1 := T11.out
                  rw [G11.out] at h1; cases h1
                have hfa : gF ≠ ga := by
                  rintro rfl
                  have h1 := F11.out
                  rw [G11.out] at h1; cases h1
                have t13 := (hk t11 (heap_lt TA2.out) hta).trans TA2.out
                have F13 := Lib.hid ((hk gF (heap_lt FA2.out) hfa).trans FA2.out)
                have L13 := Lib.hid (LA2.out.trans (happ.low OW2.out (Nat.le_refl _) LA2.out.size))
                have A13 := Lib.hid hA13; have OA := Lib.hid hown
                have x13 : w13.cell? ⟨t11, 1, none⟩ = some (.slice (some ⟨ga, 0, none⟩) 0 0) := cell_of t13
                have f13 : w13.frozen? ⟨t11, 1, none⟩ = false := free_of t13
                have T13 := Lib.hid t13
                clear happ hk hta hfa t13 hA13 hown hcA hgA
                have hS13 : w13.cell? ⟨t1, 0, none⟩ = some (.slice (some ⟨g, 0, none⟩) 1 cg) ∧ w13.cell? ⟨g, 0, none⟩ = some (.slice Pp 1 pc) := ⟨cell_of (L13.out.some A5.out), by
                  obtain ⟨cs0, r0, r1, _⟩ := (H5.out.low L13.out).row
                  exact (cell_of r0).trans r1⟩
                refine hKK.out _ _ (by exact hS13) (fun hHeld => ?_)
                clear hKK KK
                (try simp only [Act.put, List.setIfInBounds_toArray, List.set_cons_zero, List.set_cons_succ])
                refine take_at (i := 10) (v := ?_) rfl (by kernel_rfl) (by kernel_rfl) (by kernel_rfl) (fun _ _ _ h => h) (by rfl) ?_ (by assumption) ?_
                rotate_left
                · intro w' hSw; obtain ⟨s0, s1⟩ := hSw; go_simp; (try with_reducible rfl)
                (try simp only [Act.put, List.setIfInBounds_toArray, List.set_cons_zero, List.set_cons_succ])
                refine wpAnyH_ready (rs := [11]) (by kernel_rfl) (by simp) ?_
                refine next_at (i := 11) rfl (fun KK hKK => ?_) AllReadyH.nil
                go_simp
                have hgt : gF ≠ t11 := by
                  rintro rfl
                  have h1 := T13.out
                  rw [F13.out] at h1; cases h1
                have hat : gA ≠ t11 := by
                  rintro rfl
                  have h1 := T13.out
                  rw [A13.out] at h1; cases h1
                have hb14 := set_blk (i := 1) (v := .slice (some ⟨gA, 0, none⟩) 2 cA) T13.out
                have L14 := Lib.hid (L13.out.setCell (g := t11) (i := 1) HT11.out (.slice (some ⟨gA, 0, none⟩) 2 cA))
                have RES := Lib.hid (And.intro (show (w13.setCell ⟨t11, 1, none⟩ (.slice (some ⟨gA, 0, none⟩) 2 cA)).heap[t11]? = some (.cells #[.slice (some ⟨gF, 0, none⟩) 2 cF, .slice (some ⟨gA, 0, none⟩) 2 cA, .int .i64 0, .int .i64 (-1), .slice none 0 0, .slice none 0 0] 58 (0, 0)) from hb14) (And.intro L14.out (And.intro ((set_other (i := 1) (v := .slice (some ⟨gA, 0, none⟩) 2 cA) hgt).trans F13.out) ((set_other (i := 1) (v := .slice (some ⟨gA, 0, none⟩) 2 cA) hat).trans A13.out))))
                clear hgt hat hb14 x13 f13
                generalize w13.setCell ⟨t11, 1, none⟩ (.slice (some ⟨gA, 0, none⟩) 2 cA) = w14 at L14 RES ⊢
                have hS14 : w14.cell? ⟨t1, 0, none⟩ = some (.slice (some ⟨g, 0, none⟩) 1 cg) ∧ w14.cell? ⟨g, 0, none⟩ = some (.slice Pp 1 pc) := ⟨cell_of (L14.out.some A5.out), by
                  obtain ⟨cs0, r0, r1, _⟩ := (H5.out.low L14.out).row
                  exact (cell_of r0).trans r1⟩
                refine hKK.out _ _ (by exact hS14) (fun hHeld => ?_)
                clear hKK KK
                (try simp only [Act.put, List.setIfInBounds_toArray, List.set_cons_zero, List.set_cons_succ])
                refine wpAnyH_done (by kernel_rfl) ?_ _
                refine NoPanic.normal ?_
                (try go_wp2_with fail)
                go_meet
                exact ⟨gA, cA, csA, RES.out.1, RES.out.2.1, RES.out.2.2.1, RES.out.2.2.2, (cell_of A13.out).symm.trans (OA.out.cell (j := 0) rfl), (cell_of A13.out).symm.trans (OA.out.cell (j := 1) rfl)⟩
              · obtain ⟨wd, hwd⟩ : ∃ u, u = w11.drew := ⟨_, rfl⟩
                have ld : Low w11.heap.size w11 wd := hwd ▸ (Low.refl _ w11).drew
                rw [← hwd]
                clear hwd
                have LD := Lib.hid (L11.out.trans (ld.mono L11.out.size)); have TD := Lib.hid (ld.some T11.out); have FD := Lib.hid (ld.some F11.out); have GD := Lib.hid (ld.some G11.out)
                clear ld
                have la : Low wd.heap.size wd (wd.alloc (.cells #[.int .i64 0, .int .i64 1] 3)) := (Low.refl _ _).alloc (Nat.le_refl _) _
                have hown : Own (wd.alloc (.cells #[.int .i64 0, .int .i64 1] 3)) w5.heap.size 3 1 (.slice (some ⟨ga, 0, none⟩) 0 0) 0 [] := ⟨rfl, .inr ⟨ga, 0, #[], rfl, HGA.out, la.some GD.out, Nat.le_refl _, by decide, rfl, rfl⟩⟩
                have OW2 := Lib.hid hown; have TA2 := Lib.hid (la.some TD.out); have FA2 := Lib.hid (la.some FD.out); have GA2 := Lib.hid (la.some GD.out); have LA2 := Lib.hid (LD.out.trans (la.mono LD.out.size)); have XA2 := Lib.hid (heap_new wd (.cells #[.int .i64 0, .int .i64 1] 3))
                have hSa : (wd.alloc (.cells #[.int .i64 0, .int .i64 1] 3)).cell? ⟨t1, 0, none⟩ = some (.slice (some ⟨g, 0, none⟩) 1 cg) ∧ (wd.alloc (.cells #[.int .i64 0, .int .i64 1] 3)).cell? ⟨g, 0, none⟩ = some (.slice Pp 1 pc) := ⟨cell_of (LA2.out.some A5.out), by
                  obtain ⟨cs0, r0, r1, _⟩ := (H5.out.low LA2.out).row
                  exact (cell_of r0).trans r1⟩
                clear hown la
                go_simp
                refine hKK.out _ _ (by exact hSa) (fun hHeld => ?_)
                clear hKK KK
                (try simp only [Act.put, List.setIfInBounds_toArray, List.set_cons_zero, List.set_cons_succ])
                have xg : (wd.alloc (.cells #[.int .i64 0, .int .i64 1] 3)).cell? ⟨t11, 1, none⟩ = some (.slice (some ⟨ga, 0, none⟩) 0 0) := cell_of TA2.out
                refine wpAnyH_ready (rs := [1]) (by kernel_rfl) (by simp) ?_
                refine next_at (i := 1) rfl (fun KK hKK => ?_) AllReadyH.nil
                go_simp
                refine hKK.out _ _ (by exact hSa) (fun hHeld => ?_)
                clear hKK KK
                (try simp only [Act.put, List.setIfInBounds_toArray, List.set_cons_zero, List.set_cons_succ])
                clear xg
                refine wpAnyH_ready (rs := [9]) (by kernel_rfl) (by simp) ?_
                refine next_at (i := 9) rfl (fun KK hKK => ?_) AllReadyH.nil
                refine step_app1 (w := wd.alloc (.cells #[.int .i64 0, .int .i64 1] 3)) (P := Tryz.prog) (base := w5.heap.size) (n := 0) (m := 2) (xs := []) ap22 rfl (.tmp 117) (.tmp 124) rfl rfl OW2.out rfl XA2.out rfl (by simp [Value.oneCell']) (by omega) LA2.out.size ?_
                intro vA w13 happ0
                have happ : App1 (wd.alloc (.cells #[.int .i64 0, .int .i64 1] 3)) w13 w5.heap.size 3 1 (.slice (some ⟨ga, 0, none⟩) 0 0) vA 0 [] 2 [.int .i64 0, .int .i64 1] := happ0
                clear happ0
                obtain ⟨gA, cA, csA, rfl, hgA, hA13, hcA, hown⟩ := happ.row (k := 2) rfl (by decide)
                have hk : ∀ b, b < (wd.alloc (.cells #[.int .i64 0, .int .i64 1] 3)).heap.size → b ≠ ga → w13.heap[b]? = (wd.alloc (.cells #[.int .i64 0, .int .i64 1] 3)).heap[b]? := fun b hb hne => happ.block b hb (by simpa [Value.ownBlock] using hne)
                have hta : t11 ≠ ga := by
                  rintro rfl
                  have h1 := T11.out
                  rw [G11.out] at h1; cases h1
                have hfa : gF ≠ ga := by
                  rintro rfl
                  have h1 := F11.out
                  rw [G11.out] at h1; cases h1
                have t13 := (hk t11 (heap_lt TA2.out) hta).trans TA2.out
                have F13 := Lib.hid ((hk gF (heap_lt FA2.out) hfa).trans FA2.out)
                have L13 := Lib.hid (LA2.out.trans (happ.low OW2.out (Nat.le_refl _) LA2.out.size))
                have A13 := Lib.hid hA13; have OA := Lib.hid hown
                have x13 : w13.cell? ⟨t11, 1, none⟩ = some (.slice (some ⟨ga, 0, none⟩) 0 0) := cell_of t13
                have f13 : w13.frozen? ⟨t11, 1, none⟩ = false := free_of t13
                have T13 := Lib.hid t13
                clear happ hk hta hfa t13 hA13 hown hcA hgA
                have hS13 : w13.cell? ⟨t1, 0, none⟩ = some (.slice (some ⟨g, 0, none⟩) 1 cg) ∧ w13.cell? ⟨g, 0, none⟩ = some (.slice Pp 1 pc) := ⟨cell_of (L13.out.some A5.out), by
                  obtain ⟨cs0, r0, r1, _⟩ := (H5.out.low L13.out).row
                  exact (cell_of r0).trans r1⟩
                refine hKK.out _ _ (by exact hS13) (fun hHeld => ?_)
                clear hKK KK
                (try simp only [Act.put, List.setIfInBounds_toArray, List.set_cons_zero, List.set_cons_succ])
                refine take_at (i := 10) (v := ?_) rfl (by kernel_rfl) (by kernel_rfl) (by kernel_rfl) (fun _ _ _ h => h) (by rfl) ?_ (by assumption) ?_
                rotate_left
                · intro w' hSw; obtain ⟨s0, s1⟩ := hSw; go_simp; (try with_reducible rfl)
                (try simp only [Act.put, List.setIfInBounds_toArray, List.set_cons_zero, List.set_cons_succ])
                refine wpAnyH_ready (rs := [11]) (by kernel_rfl) (by simp) ?_
                refine next_at (i := 11) rfl (fun KK hKK => ?_) AllReadyH.nil
                go_simp
                have hgt : gF ≠ t11 := by
                  rintro rfl
                  have h1 := T13.out
                  rw [F13.out] at h1; cases h1
                have hat : gA ≠ t11 := by
                  rintro rfl
                  have h1 := T13.out
                  rw [A13.out] at h1; cases h1
                have hb14 := set_blk (i := 1) (v := .slice (some ⟨gA, 0, none⟩) 2 cA) T13.out
                have L14 := Lib.hid (L13.out.setCell (g := t11) (i := 1) HT11.out (.slice (some ⟨gA, 0, none⟩) 2 cA))
                have RES := Lib.hid (And.intro (show (w13.setCell ⟨t11, 1, none⟩ (.slice (some ⟨gA, 0, none⟩) 2 cA)).heap[t11]? = some (.cells #[.slice (some ⟨gF, 0, none⟩) 2 cF, .slice (some ⟨gA, 0, none⟩) 2 cA, .int .i64 0, .int .i64 (-1), .slice none 0 0, .slice none 0 0] 58 (0, 0)) from hb14) (And.intro L14.out (And.intro ((set_other (i := 1) (v := .slice (some ⟨gA, 0, none⟩) 2 cA) hgt).trans F13.out) ((set_other (i := 1) (v := .slice (some ⟨gA, 0, none⟩) 2 cA) hat).trans A13.out))))
                clear hgt hat hb14 x13 f13
                generalize w13.setCell ⟨t11, 1, none⟩ (.slice (some ⟨gA, 0, none⟩) 2 cA) = w14 at L14 RES ⊢
                have hS14 : w14.cell? ⟨t1, 0, none⟩ = some (.slice (some ⟨g, 0, none⟩) 1 cg) ∧ w14.cell? ⟨g, 0, none⟩ = some (.slice Pp 1 pc) := ⟨cell_of (L14.out.some A5.out), by
                  obtain ⟨cs0, r0, r1, _⟩ := (H5.out.low L14.out).row
                  exact (cell_of r0).trans r1⟩
                refine hKK.out _ _ (by exact hS14) (fun hHeld => ?_)
                clear hKK KK
                (try simp only [Act.put, List.setIfInBounds_toArray, List.set_cons_zero, List.set_cons_succ])
                refine wpAnyH_done (by kernel_rfl) ?_ _
                refine NoPanic.normal ?_
                (try go_wp2_with fail)
                go_meet
                exact ⟨gA, cA, csA, RES.out.1, RES.out.2.1, RES.out.2.2.1, RES.out.2.2.2, (cell_of A13.out).symm.trans (OA.out.cell (j := 0) rfl), (cell_of A13.out).symm.trans (OA.out.cell (j := 1) rfl)⟩
            case rest =>
              clear hS11 hbs
              obtain ⟨gA, cA, csA, hT14, l14, hF14, hA14, hk0, hk1⟩ := hcut
              obtain ⟨w14, rfl⟩ : ∃ u, u = wc := ⟨_, rfl⟩
              have hval : Calls Tryz.prog 25 #[.agg #[.slice (some ⟨gF, 0, none⟩) 2 cF, .slice (some ⟨gA, 0, none⟩) 2 cA, .int .i64 0, .int .i64 (-1), .slice none 0 0, .slice none 0 0]] w14 (fun r w' => Low w14.heap.size w14 w' ∧ r = .returned (.int .i64 0)) := by
                refine valid_of w14 (some ⟨gF, 0, none⟩) 2 cF _ _ _ _ _ (by decide) (fun u hu => ?_) (fun u hu j hj => ?_)
                · exact header_any u (some ⟨gF, 0, none⟩) 2 cF gA cA 0 csA (by decide) (by decide) (hu.some hA14) hk0 (by
                    intro j hj
                    match j with
                    | 0 => exact ⟨0, hk0, by decide, by decide⟩
                    | 1 => exact ⟨1, hk1, by decide, by decide⟩
                    | j + 2 => omega
                  )
                · have hFu := hu.some hF14; have hAu := hu.some hA14
                  have hlu := Low.trans l14 (hu.mono l14.size)
                  have hhu := HH5.out.low hlu; have hfu := H5.out.low hlu
                  match j with
                  | 0 => exact function_halt u gF 2 cF gA 2 cA 0 0 (-1) gh 1 hhu ((cell_of hFu).trans k0.out) ((cell_of hAu).trans hk0) (by decide) (by decide) (by decide) (by decide)
                  | 1 => exact function_one u gF 2 cF gA 2 cA 0 1 (-1) g cg Pp pc A n c T tc l hfu ((cell_of hFu).trans k1.out) ((cell_of hAu).trans hk1) (by decide) (by decide) (by decide) (by decide) HN.out HRES.out (fun _ => (cell_of hAu).trans hk0)
                  | j + 2 => omega
              have L14 := Lib.hid (L5.out.trans (l14.mono L5.out.size)); have T14 := Lib.hid hT14
              clear l14 hF14 hA14 hk0 hk1 hT14
              have y0 : w14.cell? ⟨t11, 0, none⟩ = some (.slice (some ⟨gF, 0, none⟩) 2 cF) := cell_of T14.out
              have y1 : w14.cell? ⟨t11, 1, none⟩ = some (.slice (some ⟨gA, 0, none⟩) 2 cA) := cell_of T14.out
              have y2 : w14.cell? ⟨t11, 2, none⟩ = some (.int .i64 0) := cell_of T14.out
              have y3 : w14.cell? ⟨t11, 3, none⟩ = some (.int .i64 (-1)) := cell_of T14.out
              have y4 : w14.cell? ⟨t11, 4, none⟩ = some (.slice none 0 0) := cell_of T14.out
              have y5 : w14.cell? ⟨t11, 5, none⟩ = some (.slice none 0 0) := cell_of T14.out
              go_wp2_with fail
              go_loopw [128] (fun i wr => i = .int .i64 0 ∧ wr = w14) (fun _ _ => 0)
              case atStart => exact ⟨rfl, rfl⟩
              case round =>
                obtain ⟨rfl, rfl⟩ := hrel
                go_wp2_with (first
                  | (go_at_call 25; with_reducible refine hval.mono ?_; rintro r w15 ⟨l15, rfl⟩))
                go_ret
                exact ⟨rfl, L14.out.trans (Low.mono l15 L14.out.size)⟩
      · have M4 := Lib.hid hm
        clear hm
        rw [show (((1 : Nat) : Int) - 1) = 0 from rfl]
        have y1 : w4.cell? ⟨t1, 0, none⟩ = some (.slice (some ⟨g, 0, none⟩) 1 cg) := cell_of A4.out
        have p0 : w4.cell? ⟨g, 0, none⟩ = some (.slice Pp 1 pc) := by
          obtain ⟨cs0, r0, r1, _⟩ := H4.out.row
          exact (cell_of r0).trans r1
        have hbs : ∀ u : World, (Instr.buildSlice 37 1 #[(0, .agg #[.slice none 0 0, .slice none 0 0, .int .i64 5, .int .i64 0, .slice none 0 0])]).run Tryz.prog u = .ok (.slice (some ⟨u.heap.size, 0, none⟩) 1 1) (u.alloc (.cells #[.slice none 0 0, .slice none 0 0, .int .i64 5, .int .i64 0, .slice none 0 0] 29)) := fun u => by kernel_rfl
        obtain ⟨gh, hgh⟩ : ∃ S, w4.heap.size = S := ⟨_, rfl⟩
        go_upto_region 21 with fail
        obtain ⟨t10, ht10⟩ : ∃ t, t = gh + 1 := ⟨_, rfl⟩
        have hv := two_allocs (.cells #[.slice none 0 0, .slice none 0 0, .int .i64 5, .int .i64 0, .slice none 0 0] 29) (.cells #[.slice (some ⟨gh, 0, none⟩) 1 1] 39) hgh rfl ht10 _ rfl
        rw [← ht10]
        clear ht10 hgh y1 p0 hbs
        generalize (w4.alloc (.cells #[.slice none 0 0, .slice none 0 0, .int .i64 5, .int .i64 0, .slice none 0 0] 29)).alloc (.cells #[.slice (some ⟨gh, 0, none⟩) 1 1] 39) = w5 at hv ⊢
        obtain ⟨l5, hh5, hx5⟩ := hv
        have L5 := Lib.hid (L4.out.trans (l5.mono L4.out.size)); have A5 := Lib.hid (l5.some A4.out); have H5 := Lib.hid (H4.out.low l5); have M5 := Lib.hid (M4.out.keep (l5.block _ (heap_lt M4.out)))
        have HH5 := Lib.hid (show HaltAt w5 gh from hh5); have X5 := Lib.hid hx5
        clear l5 hh5 hx5
        have hmkf := mk54_1
        have hmka := mk22_1
        have LZ := Lib.hid (Low.refl w5.heap.size w5)
        have hT : True := trivial
        go_cut [11] (fun v11 wx => ∃ t11 gf ga, v11 = .pointer (some ⟨t11, 0, none⟩) ∧ Low w5.heap.size w5 wx ∧ w5.heap.size ≤ t11 ∧ w5.heap.size ≤ gf ∧ w5.heap.size ≤ ga ∧ wx.heap[t11]? = some (.cells #[.slice (some ⟨gf, 0, none⟩) 1 1, .slice (some ⟨ga, 0, none⟩) 1 1, .int .i64 1, .int .i64 (-1), .slice none 0 0, .slice none 0 0] 58 (0, 0)) ∧ wx.heap[gf]? = some (.cells #[.slice none 0 0] 39 (0, 0)) ∧ wx.heap[ga]? = some (.cells #[.int .i64 0] 3 (0, 0)))
        case first =>
          refine wp_region_noPanic ?_
          refine wp_region_held_drew (S := fun w' => True) (by kernel_rfl) (by exact hT) (fun hHeld => ?_)
          refine take_at (i := 0) (v := ?_) rfl (by kernel_rfl) (by kernel_rfl) (by kernel_rfl) (fun _ _ _ h => h) (by rfl) ?_ (by assumption) ?_
          rotate_left
          · intro w' hSw; have s0 := hSw; go_simp; (try with_reducible rfl)
          (try simp only [Act.put, List.setIfInBounds_toArray, List.set_cons_zero, List.set_cons_succ])
          refine take_at (i := 1) (v := ?_) rfl (by kernel_rfl) (by kernel_rfl) (by kernel_rfl) (fun _ _ _ h => h) (by rfl) ?_ (by assumption) ?_
          rotate_left
          · intro w' hSw; have s0 := hSw; go_simp; (try with_reducible rfl)
          (try simp only [Act.put, List.setIfInBounds_toArray, List.set_cons_zero, List.set_cons_succ])
          refine take_at (i := 3) (v := ?_) rfl (by kernel_rfl) (by kernel_rfl) (by kernel_rfl) (fun _ _ _ h => h) (by rfl) ?_ (by assumption) ?_
          rotate_left
          · intro w' hSw; have s0 := hSw; go_simp; (try with_reducible rfl)
          (try simp only [Act.put, List.setIfInBounds_toArray, List.set_cons_zero, List.set_cons_succ])
          refine take_at (i := 4) (v := ?_) rfl (by kernel_rfl) (by kernel_rfl) (by kernel_rfl) (fun _ _ _ h => h) (by rfl) ?_ (by assumption) ?_
          rotate_left
          · intro w' hSw; have s0 := hSw; go_simp; (try with_reducible rfl)
          (try simp only [Act.put, List.setIfInBounds_toArray, List.set_cons_zero, List.set_cons_succ])
          refine take_at (i := 6) (v := ?_) rfl (by kernel_rfl) (by kernel_rfl) (by kernel_rfl) (fun _ _ _ h => h) (by rfl) ?_ (by assumption) ?_
          rotate_left
          · intro w' hSw; have s0 := hSw; go_simp; (try with_reducible rfl)
          (try simp only [Act.put, List.setIfInBounds_toArray, List.set_cons_zero, List.set_cons_succ])
          refine take_at (i := 7) (v := ?_) rfl (by kernel_rfl) (by kernel_rfl) (by kernel_rfl) (fun _ _ _ h => h) (by rfl) ?_ (by assumption) ?_
          rotate_left
          · intro w' hSw; have s0 := hSw; go_simp; (try with_reducible rfl)
          (try simp only [Act.put, List.setIfInBounds_toArray, List.set_cons_zero, List.set_cons_succ])
          have hw0 : IntKind.i64.wrap 1 = 1 := by kernel_rfl
          simp only [hw0]
          clear hw0
          refine wpAnyH_ready (rs := [2, 5, 9]) (by kernel_rfl) (by simp) ?_
          refine next_at (i := 2) rfl (fun KK hKK => ?_) (next_at (i := 5) rfl (fun KK hKK => ?_) (next_at (i := 9) rfl (fun KK hKK => ?_) AllReadyH.nil))
          · obtain ⟨wd100, hwd⟩ : ∃ u, u = w5.drew := ⟨_, rfl⟩
            have LD101 := Lib.hid (show Low w5.heap.size w5 wd100 from hwd ▸ (LZ.out).drew)
            rw [← hwd]
            clear hwd
            go_simp
            have l1 : Low wd100.heap.size wd100 (wd100.alloc (.cells #[.slice none 0 0] 39)) := (Low.refl _ _).alloc (Nat.le_refl _) _
            have hb := heap_new wd100 (.cells #[.slice none 0 0] 39)
            have hs := LD101.out.size
            obtain ⟨b104, hq⟩ : ∃ t, t = wd100.heap.size := ⟨_, rfl⟩
            rw [← hq] at hb hs ⊢
            clear hq
            generalize wd100.alloc (.cells #[.slice none 0 0] 39) = w102 at l1 hb ⊢
            have B105 := Lib.hid hb; have HB106 := Lib.hid hs; have L103 := Lib.hid (LD101.out.trans (l1.mono LD101.out.size))
            clear l1 hb hs
            refine hKK.out _ _ (by exact hT) (fun hHeld => ?_)
            clear hKK KK
            (try simp only [Act.put, List.setIfInBounds_toArray, List.set_cons_zero, List.set_cons_succ])
            refine wpAnyH_ready (rs := [5, 9]) (by kernel_rfl) (by simp) ?_
            refine next_at (i := 5) rfl (fun KK hKK => ?_) (next_at (i := 9) rfl (fun KK hKK => ?_) AllReadyH.nil)
            · go_simp
              have l1 : Low w102.heap.size w102 (w102.alloc (.cells #[.int .i64 0] 3)) := (Low.refl _ _).alloc (Nat.le_refl _) _
              have hb := heap_new w102 (.cells #[.int .i64 0] 3)
              have hs := L103.out.size
              obtain ⟨b109, hq⟩ : ∃ t, t = w102.heap.size := ⟨_, rfl⟩
              rw [← hq] at hb hs ⊢
              clear hq
              generalize w102.alloc (.cells #[.int .i64 0] 3) = w107 at l1 hb ⊢
              have B110 := Lib.hid hb; have HB111 := Lib.hid hs; have L108 := Lib.hid (L103.out.trans (l1.mono L103.out.size))
              have B112 := Lib.hid (l1.some B105.out)
              clear l1 hb hs
              refine hKK.out _ _ (by exact hT) (fun hHeld => ?_)
              clear hKK KK
              (try simp only [Act.put, List.setIfInBounds_toArray, List.set_cons_zero, List.set_cons_succ])
              refine take_at (i := 8) (v := ?_) rfl (by kernel_rfl) (by kernel_rfl) (by kernel_rfl) (fun _ _ _ h => h) (by rfl) ?_ (by assumption) ?_
              rotate_left
              · intro w' hSw; have s0 := hSw; go_simp; (try with_reducible rfl)
              (try simp only [Act.put, List.setIfInBounds_toArray, List.set_cons_zero, List.set_cons_succ])
              refine wpAnyH_ready (rs := [9]) (by kernel_rfl) (by simp) ?_
              refine next_at (i := 9) rfl (fun KK hKK => ?_) AllReadyH.nil
              · go_simp
                have l1 : Low w107.heap.size w107 (w107.alloc (.cells #[.slice none 0 0, .slice none 0 0, .int .i64 0, .int .i64 0, .slice none 0 0, .slice none 0 0] 58)) := (Low.refl _ _).alloc (Nat.le_refl _) _
                have hb := heap_new w107 (.cells #[.slice none 0 0, .slice none 0 0, .int .i64 0, .int .i64 0, .slice none 0 0, .slice none 0 0] 58)
                have hs := L108.out.size
                obtain ⟨b115, hq⟩ : ∃ t, t = w107.heap.size := ⟨_, rfl⟩
                rw [← hq] at hb hs ⊢
                clear hq
                generalize w107.alloc (.cells #[.slice none 0 0, .slice none 0 0, .int .i64 0, .int .i64 0, .slice none 0 0, .slice none 0 0] 58) = w113 at l1 hb ⊢
                have B116 := Lib.hid hb; have HB117 := Lib.hid hs; have L114 := Lib.hid (L108.out.trans (l1.mono L108.out.size))
                have B118 := Lib.hid (l1.some B112.out)
                have B119 := Lib.hid (l1.some B110.out)
                clear l1 hb hs
                refine hKK.out _ _ (by exact hT) (fun hHeld => ?_)
                clear hKK KK
                (try simp only [Act.put, List.setIfInBounds_toArray, List.set_cons_zero, List.set_cons_succ])
                have e0 : w113.cell? ⟨b115, 0, none⟩ = some (.slice none 0 0) := cell_of B116.out
                have f0 : w113.frozen? ⟨b115, 0, none⟩ = false := free_of B116.out
                have e1 : w113.cell? ⟨b115, 1, none⟩ = some (.slice none 0 0) := cell_of B116.out
                have f1 : w113.frozen? ⟨b115, 1, none⟩ = false := free_of B116.out
                have e2 : w113.cell? ⟨b115, 2, none⟩ = some (.int .i64 0) := cell_of B116.out
                have f2 : w113.frozen? ⟨b115, 2, none⟩ = false := free_of B116.out
                have e3 : w113.cell? ⟨b115, 3, none⟩ = some (.int .i64 0) := cell_of B116.out
                have f3 : w113.frozen? ⟨b115, 3, none⟩ = false := free_of B116.out
                have e4 : w113.cell? ⟨b115, 4, none⟩ = some (.slice none 0 0) := cell_of B116.out
                have f4 : w113.frozen? ⟨b115, 4, none⟩ = false := free_of B116.out
                have e5 : w113.cell? ⟨b115, 5, none⟩ = some (.slice none 0 0) := cell_of B116.out
                have f5 : w113.frozen? ⟨b115, 5, none⟩ = false := free_of B116.out
                refine wpAnyH_ready (rs := [10]) (by kernel_rfl) (by simp) ?_
                refine next_at (i := 10) rfl (fun KK hKK => ?_) AllReadyH.nil
                go_simp
                obtain ⟨hz1, hz2, hz3, hz4⟩ := six_sets (v0 := .slice (some ⟨b104, 0, none⟩) 1 1) (v1 := .slice (some ⟨b109, 0, none⟩) 1 1) (v2 := .int .i64 1) (v3 := .int .i64 (-1)) (v4 := .slice none 0 0) (v5 := .slice none 0 0) B116.out _ rfl
                have hlow := hz4 w5.heap.size (fun u => Low w5.heap.size w5 u) (Inv.low w5.heap.size w5 (Nat.le_refl _)) HB117.out L114.out
                have hgf : b104 ≠ b115 := by
                  rintro rfl
                  have h1 := B116.out
                  rw [B118.out] at h1; cases h1
                have hga : b109 ≠ b115 := by
                  rintro rfl
                  have h1 := B116.out
                  rw [B119.out] at h1; cases h1
                have hF9 := (hz2 _ hgf).trans B118.out
                have hG9 := (hz2 _ hga).trans B119.out
                clear hz2 hz3 hz4 hgf hga
                generalize World.setCell _ _ _ = w9 at hz1 hlow hF9 hG9 ⊢
                clear e0 e1 e2 e3 e4 e5 f0 f1 f2 f3 f4 f5
                have RES := Lib.hid (And.intro hlow (And.intro HB117.out (And.intro HB106.out (And.intro HB111.out (And.intro hz1 (And.intro hF9 hG9))))))
                clear hz1 hlow hF9 hG9
                refine hKK.out _ _ (by exact hT) (fun hHeld => ?_)
                clear hKK KK
                (try simp only [Act.put, List.setIfInBounds_toArray, List.set_cons_zero, List.set_cons_succ])
                refine wpAnyH_done (by kernel_rfl) ?_ _
                refine NoPanic.normal ?_
                (try go_wp2_with fail)
                go_meet
                exact ⟨b115, b104, b109, rfl, RES.out⟩
            · go_simp
              have l1 : Low w102.heap.size w102 (w102.alloc (.cells #[.slice none 0 0, .slice none 0 0, .int .i64 0, .int .i64 0, .slice none 0 0, .slice none 0 0] 58)) := (Low.refl _ _).alloc (Nat.le_refl _) _
              have hb := heap_new w102 (.cells #[.slice none 0 0, .slice none 0 0, .int .i64 0, .int .i64 0, .slice none 0 0, .slice none 0 0] 58)
              have hs := L103.out.size
              obtain ⟨b122, hq⟩ : ∃ t, t = w102.heap.size := ⟨_, rfl⟩
              rw [← hq] at hb hs ⊢
              clear hq
              generalize w102.alloc (.cells #[.slice none 0 0, .slice none 0 0, .int .i64 0, .int .i64 0, .slice none 0 0, .slice none 0 0] 58) = w120 at l1 hb ⊢
              have B123 := Lib.hid hb; have HB124 := Lib.hid hs; have L121 := Lib.hid (L103.out.trans (l1.mono L103.out.size))
              have B125 := Lib.hid (l1.some B105.out)
              clear l1 hb hs
              refine hKK.out _ _ (by exact hT) (fun hHeld => ?_)
              clear hKK KK
              (try simp only [Act.put, List.setIfInBounds_toArray, List.set_cons_zero, List.set_cons_succ])
              refine wpAnyH_ready (rs := [5]) (by kernel_rfl) (by simp) ?_
              refine next_at (i := 5) rfl (fun KK hKK => ?_) AllReadyH.nil
              · go_simp
                have l1 : Low w120.heap.size w120 (w120.alloc (.cells #[.int .i64 0] 3)) := (Low.refl _ _).alloc (Nat.le_refl _) _
                have hb := heap_new w120 (.cells #[.int .i64 0] 3)
                have hs := L121.out.size
                obtain ⟨b128, hq⟩ : ∃ t, t = w120.heap.size := ⟨_, rfl⟩
                rw [← hq] at hb hs ⊢
                clear hq
                generalize w120.alloc (.cells #[.int .i64 0] 3) = w126 at l1 hb ⊢
                have B129 := Lib.hid hb; have HB130 := Lib.hid hs; have L127 := Lib.hid (L121.out.trans (l1.mono L121.out.size))
                have B131 := Lib.hid (l1.some B125.out)
                have B132 := Lib.hid (l1.some B123.out)
                clear l1 hb hs
                refine hKK.out _ _ (by exact hT) (fun hHeld => ?_)
                clear hKK KK
                (try simp only [Act.put, List.setIfInBounds_toArray, List.set_cons_zero, List.set_cons_succ])
                refine take_at (i := 8) (v := ?_) rfl (by kernel_rfl) (by kernel_rfl) (by kernel_rfl) (fun _ _ _ h => h) (by rfl) ?_ (by assumption) ?_
                rotate_left
                · intro w' hSw; have s0 := hSw; go_simp; (try with_reducible rfl)
                (try simp only [Act.put, List.setIfInBounds_toArray, List.set_cons_zero, List.set_cons_succ])
                have e0 : w126.cell? ⟨b122, 0, none⟩ = some (.slice none 0 0) := cell_of B132.out
                have f0 : w126.frozen? ⟨b122, 0, none⟩ = false := free_of B132.out
                have e1 : w126.cell? ⟨b122, 1, none⟩ = some (.slice none 0 0) := cell_of B132.out
                have f1 : w126.frozen? ⟨b122, 1, none⟩ = false := free_of B132.out
                have e2 : w126.cell? ⟨b122, 2, none⟩ = some (.int .i64 0) := cell_of B132.out
                have f2 : w126.frozen? ⟨b122, 2, none⟩ = false := free_of B132.out
                have e3 : w126.cell? ⟨b122, 3, none⟩ = some (.int .i64 0) := cell_of B132.out
                have f3 : w126.frozen? ⟨b122, 3, none⟩ = false := free_of B132.out
                have e4 : w126.cell? ⟨b122, 4, none⟩ = some (.slice none 0 0) := cell_of B132.out
                have f4 : w126.frozen? ⟨b122, 4, none⟩ = false := free_of B132.out
                have e5 : w126.cell? ⟨b122, 5, none⟩ = some (.slice none 0 0) := cell_of B132.out
                have f5 : w126.frozen? ⟨b122, 5, none⟩ = false := free_of B132.out
                refine wpAnyH_ready (rs := [10]) (by kernel_rfl) (by simp) ?_
                refine next_at (i := 10) rfl (fun KK hKK => ?_) AllReadyH.nil
                go_simp
                obtain ⟨hz1, hz2, hz3, hz4⟩ := six_sets (v0 := .slice (some ⟨b104, 0, none⟩) 1 1) (v1 := .slice (some ⟨b128, 0, none⟩) 1 1) (v2 := .int .i64 1) (v3 := .int .i64 (-1)) (v4 := .slice none 0 0) (v5 := .slice none 0 0) B132.out _ rfl
                have hlow := hz4 w5.heap.size (fun u => Low w5.heap.size w5 u) (Inv.low w5.heap.size w5 (Nat.le_refl _)) HB124.out L127.out
                have hgf : b104 ≠ b122 := by
                  rintro rfl
                  have h1 := B132.out
                  rw [B131.out] at h1; cases h1
                have hga : b128 ≠ b122 := by
                  rintro rfl
                  have h1 := B132.out
                  rw [B129.out] at h1; cases h1
                have hF9 := (hz2 _ hgf).trans B131.out
                have hG9 := (hz2 _ hga).trans B129.out
                clear hz2 hz3 hz4 hgf hga
                generalize World.setCell _ _ _ = w9 at hz1 hlow hF9 hG9 ⊢
                clear e0 e1 e2 e3 e4 e5 f0 f1 f2 f3 f4 f5
                have RES := Lib.hid (And.intro hlow (And.intro HB124.out (And.intro HB106.out (And.intro HB130.out (And.intro hz1 (And.intro hF9 hG9))))))
                clear hz1 hlow hF9 hG9
                refine hKK.out _ _ (by exact hT) (fun hHeld => ?_)
                clear hKK KK
                (try simp only [Act.put, List.setIfInBounds_toArray, List.set_cons_zero, List.set_cons_succ])
                refine wpAnyH_done (by kernel_rfl) ?_ _
                refine NoPanic.normal ?_
                (try go_wp2_with fail)
                go_meet
                exact ⟨b122, b104, b128, rfl, RES.out⟩
          · obtain ⟨wd133, hwd⟩ : ∃ u, u = w5.drew := ⟨_, rfl⟩
            have LD134 := Lib.hid (show Low w5.heap.size w5 wd133 from hwd ▸ (LZ.out).drew)
            rw [← hwd]
            clear hwd
            go_simp
            have l1 : Low wd133.heap.size wd133 (wd133.alloc (.cells #[.int .i64 0] 3)) := (Low.refl _ _).alloc (Nat.le_refl _) _
            have hb := heap_new wd133 (.cells #[.int .i64 0] 3)
            have hs := LD134.out.size
            obtain ⟨b137, hq⟩ : ∃ t, t = wd133.heap.size := ⟨_, rfl⟩
            rw [← hq] at hb hs ⊢
            clear hq
            generalize wd133.alloc (.cells #[.int .i64 0] 3) = w135 at l1 hb ⊢
            have B138 := Lib.hid hb; have HB139 := Lib.hid hs; have L136 := Lib.hid (LD134.out.trans (l1.mono LD134.out.size))
            clear l1 hb hs
            refine hKK.out _ _ (by exact hT) (fun hHeld => ?_)
            clear hKK KK
            (try simp only [Act.put, List.setIfInBounds_toArray, List.set_cons_zero, List.set_cons_succ])
            refine wpAnyH_ready (rs := [2, 9]) (by kernel_rfl) (by simp) ?_
            refine next_at (i := 2) rfl (fun KK hKK => ?_) (next_at (i := 9) rfl (fun KK hKK => ?_) AllReadyH.nil)
            · go_simp
              have l1 : Low w135.heap.size w135 (w135.alloc (.cells #[.slice none 0 0] 39)) := (Low.refl _ _).alloc (Nat.le_refl _) _
              have hb := heap_new w135 (.cells #[.slice none 0 0] 39)
              have hs := L136.out.size
              obtain ⟨b142, hq⟩ : ∃ t, t = w135.heap.size := ⟨_, rfl⟩
              rw [← hq] at hb hs ⊢
              clear hq
              generalize w135.alloc (.cells #[.slice none 0 0] 39) = w140 at l1 hb ⊢
              have B143 := Lib.hid hb; have HB144 := Lib.hid hs; have L141 := Lib.hid (L136.out.trans (l1.mono L136.out.size))
              have B145 := Lib.hid (l1.some B138.out)
              clear l1 hb hs
              refine hKK.out _ _ (by exact hT) (fun hHeld => ?_)
              clear hKK KK
              (try simp only [Act.put, List.setIfInBounds_toArray, List.set_cons_zero, List.set_cons_succ])
              refine take_at (i := 8) (v := ?_) rfl (by kernel_rfl) (by kernel_rfl) (by kernel_rfl) (fun _ _ _ h => h) (by rfl) ?_ (by assumption) ?_
              rotate_left
              · intro w' hSw; have s0 := hSw; go_simp; (try with_reducible rfl)
              (try simp only [Act.put, List.setIfInBounds_toArray, List.set_cons_zero, List.set_cons_succ])
              refine wpAnyH_ready (rs := [9]) (by kernel_rfl) (by simp) ?_
              refine next_at (i := 9) rfl (fun KK hKK => ?_) AllReadyH.nil
              · go_simp
                have l1 : Low w140.heap.size w140 (w140.alloc (.cells #[.slice none 0 0, .slice none 0 0, .int .i64 0, .int .i64 0, .slice none 0 0, .slice none 0 0] 58)) := (Low.refl _ _).alloc (Nat.le_refl _) _
                have hb := heap_new w140 (.cells #[.slice none 0 0, .slice none 0 0, .int .i64 0, .int .i64 0, .slice none 0 0, .slice none 0 0] 58)
                have hs := L141.out.size
                obtain ⟨b148, hq⟩ : ∃ t, t = w140.heap.size := ⟨_, rfl⟩
                rw [← hq] at hb hs ⊢
                clear hq
                generalize w140.alloc (.cells #[.slice none 0 0, .slice none 0 0, .int .i64 0, .int .i64 0, .slice none 0 0, .slice none 0 0] 58) = w146 at l1 hb ⊢
                have B149 := Lib.hid hb; have HB150 := Lib.hid hs; have L147 := Lib.hid (L141.out.trans (l1.mono L141.out.size))
                have B151 := Lib.hid (l1.some B145.out)
                have B152 := Lib.hid (l1.some B143.out)
                clear l1 hb hs
                refine hKK.out _ _ (by exact hT) (fun hHeld => ?_)
                clear hKK KK
                (try simp only [Act.put, List.setIfInBounds_toArray, List.set_cons_zero, List.set_cons_succ])
                have e0 : w146.cell? ⟨b148, 0, none⟩ = some (.slice none 0 0) := cell_of B149.out
                have f0 : w146.frozen? ⟨b148, 0, none⟩ = false := free_of B149.out
                have e1 : w146.cell? ⟨b148, 1, none⟩ = some (.slice none 0 0) := cell_of B149.out
                have f1 : w146.frozen? ⟨b148, 1, none⟩ = false := free_of B149.out
                have e2 : w146.cell? ⟨b148, 2, none⟩ = some (.int .i64 0) := cell_of B149.out
                have f2 : w146.frozen? ⟨b148, 2, none⟩ = false := free_of B149.out
                have e3 : w146.cell? ⟨b148, 3, none⟩ = some (.int .i64 0) := cell_of B149.out
                have f3 : w146.frozen? ⟨b148, 3, none⟩ = false := free_of B149.out
                have e4 : w146.cell? ⟨b148, 4, none⟩ = some (.slice none 0 0) := cell_of B149.out
                have f4 : w146.frozen? ⟨b148, 4, none⟩ = false := free_of B149.out
                have e5 : w146.cell? ⟨b148, 5, none⟩ = some (.slice none 0 0) := cell_of B149.out
                have f5 : w146.frozen? ⟨b148, 5, none⟩ = false := free_of B149.out
                refine wpAnyH_ready (rs := [10]) (by kernel_rfl) (by simp) ?_
                refine next_at (i := 10) rfl (fun KK hKK => ?_) AllReadyH.nil
                go_simp
                obtain ⟨hz1, hz2, hz3, hz4⟩ := six_sets (v0 := .slice (some ⟨b142, 0, none⟩) 1 1) (v1 := .slice (some ⟨b137, 0, none⟩) 1 1) (v2 := .int .i64 1) (v3 := .int .i64 (-1)) (v4 := .slice none 0 0) (v5 := .slice none 0 0) B149.out _ rfl
                have hlow := hz4 w5.heap.size (fun u => Low w5.heap.size w5 u) (Inv.low w5.heap.size w5 (Nat.le_refl _)) HB150.out L147.out
                have hgf : b142 ≠ b148 := by
                  rintro rfl
                  have h1 := B149.out
                  rw [B152.out] at h1; cases h1
                have hga : b137 ≠ b148 := by
                  rintro rfl
                  have h1 := B149.out
                  rw [B151.out] at h1; cases h1
                have hF9 := (hz2 _ hgf).trans B152.out
                have hG9 := (hz2 _ hga).trans B151.out
                clear hz2 hz3 hz4 hgf hga
                generalize World.setCell _ _ _ = w9 at hz1 hlow hF9 hG9 ⊢
                clear e0 e1 e2 e3 e4 e5 f0 f1 f2 f3 f4 f5
                have RES := Lib.hid (And.intro hlow (And.intro HB150.out (And.intro HB144.out (And.intro HB139.out (And.intro hz1 (And.intro hF9 hG9))))))
                clear hz1 hlow hF9 hG9
                refine hKK.out _ _ (by exact hT) (fun hHeld => ?_)
                clear hKK KK
                (try simp only [Act.put, List.setIfInBounds_toArray, List.set_cons_zero, List.set_cons_succ])
                refine wpAnyH_done (by kernel_rfl) ?_ _
                refine NoPanic.normal ?_
                (try go_wp2_with fail)
                go_meet
                exact ⟨b148, b142, b137, rfl, RES.out⟩
            · go_simp
              have l1 : Low w135.heap.size w135 (w135.alloc (.cells #[.slice none 0 0, .slice none 0 0, .int .i64 0, .int .i64 0, .slice none 0 0, .slice none 0 0] 58)) := (Low.refl _ _).alloc (Nat.le_refl _) _
              have hb := heap_new w135 (.cells #[.slice none 0 0, .slice none 0 0, .int .i64 0, .int .i64 0, .slice none 0 0, .slice none 0 0] 58)
              have hs := L136.out.size
              obtain ⟨b155, hq⟩ : ∃ t, t = w135.heap.size := ⟨_, rfl⟩
              rw [← hq] at hb hs ⊢
              clear hq
              generalize w135.alloc (.cells #[.slice none 0 0, .slice none 0 0, .int .i64 0, .int .i64 0, .slice none 0 0, .slice none 0 0] 58) = w153 at l1 hb ⊢
              have B156 := Lib.hid hb; have HB157 := Lib.hid hs; have L154 := Lib.hid (L136.out.trans (l1.mono L136.out.size))
              have B158 := Lib.hid (l1.some B138.out)
              clear l1 hb hs
              refine hKK.out _ _ (by exact hT) (fun hHeld => ?_)
              clear hKK KK
              (try simp only [Act.put, List.setIfInBounds_toArray, List.set_cons_zero, List.set_cons_succ])
              refine wpAnyH_ready (rs := [2]) (by kernel_rfl) (by simp) ?_
              refine next_at (i := 2) rfl (fun KK hKK => ?_) AllReadyH.nil
              · go_simp
                have l1 : Low w153.heap.size w153 (w153.alloc (.cells #[.slice none 0 0] 39)) := (Low.refl _ _).alloc (Nat.le_refl _) _
                have hb := heap_new w153 (.cells #[.slice none 0 0] 39)
                have hs := L154.out.size
                obtain ⟨b161, hq⟩ : ∃ t, t = w153.heap.size := ⟨_, rfl⟩
                rw [← hq] at hb hs ⊢
                clear hq
                generalize w153.alloc (.cells #[.slice none 0 0] 39) = w159 at l1 hb ⊢
                have B162 := Lib.hid hb; have HB163 := Lib.hid hs; have L160 := Lib.hid (L154.out.trans (l1.mono L154.out.size))
                have B164 := Lib.hid (l1.some B158.out)
                have B165 := Lib.hid (l1.some B156.out)
                clear l1 hb hs
                refine hKK.out _ _ (by exact hT) (fun hHeld => ?_)
                clear hKK KK
                (try simp only [Act.put, List.setIfInBounds_toArray, List.set_cons_zero, List.set_cons_succ])
                refine take_at (i := 8) (v := ?_) rfl (by kernel_rfl) (by kernel_rfl) (by kernel_rfl) (fun _ _ _ h => h) (by rfl) ?_ (by assumption) ?_
                rotate_left
                · intro w' hSw; have s0 := hSw; go_simp; (try with_reducible rfl)
                (try simp only [Act.put, List.setIfInBounds_toArray, List.set_cons_zero, List.set_cons_succ])
                have e0 : w159.cell? ⟨b155, 0, none⟩ = some (.slice none 0 0) := cell_of B165.out
                have f0 : w159.frozen? ⟨b155, 0, none⟩ = false := free_of B165.out
                have e1 : w159.cell? ⟨b155, 1, none⟩ = some (.slice none 0 0) := cell_of B165.out
                have f1 : w159.frozen? ⟨b155, 1, none⟩ = false := free_of B165.out
                have e2 : w159.cell? ⟨b155, 2, none⟩ = some (.int .i64 0) := cell_of B165.out
                have f2 : w159.frozen? ⟨b155, 2, none⟩ = false := free_of B165.out
                have e3 : w159.cell? ⟨b155, 3, none⟩ = some (.int .i64 0) := cell_of B165.out
                have f3 : w159.frozen? ⟨b155, 3, none⟩ = false := free_of B165.out
                have e4 : w159.cell? ⟨b155, 4, none⟩ = some (.slice none 0 0) := cell_of B165.out
                have f4 : w159.frozen? ⟨b155, 4, none⟩ = false := free_of B165.out
                have e5 : w159.cell? ⟨b155, 5, none⟩ = some (.slice none 0 0) := cell_of B165.out
                have f5 : w159.frozen? ⟨b155, 5, none⟩ = false := free_of B165.out
                refine wpAnyH_ready (rs := [10]) (by kernel_rfl) (by simp) ?_
                refine next_at (i := 10) rfl (fun KK hKK => ?_) AllReadyH.nil
                go_simp
                obtain ⟨hz1, hz2, hz3, hz4⟩ := six_sets (v0 := .slice (some ⟨b161, 0, none⟩) 1 1) (v1 := .slice (some ⟨b137, 0, none⟩) 1 1) (v2 := .int .i64 1) (v3 := .int .i64 (-1)) (v4 := .slice none 0 0) (v5 := .slice none 0 0) B165.out _ rfl
                have hlow := hz4 w5.heap.size (fun u => Low w5.heap.size w5 u) (Inv.low w5.heap.size w5 (Nat.le_refl _)) HB157.out L160.out
                have hgf : b161 ≠ b155 := by
                  rintro rfl
                  have h1 := B165.out
                  rw [B162.out] at h1; cases h1
                have hga : b137 ≠ b155 := by
                  rintro rfl
                  have h1 := B165.out
                  rw [B164.out] at h1; cases h1
                have hF9 := (hz2 _ hgf).trans B162.out
                have hG9 := (hz2 _ hga).trans B164.out
                clear hz2 hz3 hz4 hgf hga
                generalize World.setCell _ _ _ = w9 at hz1 hlow hF9 hG9 ⊢
                clear e0 e1 e2 e3 e4 e5 f0 f1 f2 f3 f4 f5
                have RES := Lib.hid (And.intro hlow (And.intro HB157.out (And.intro HB163.out (And.intro HB139.out (And.intro hz1 (And.intro hF9 hG9))))))
                clear hz1 hlow hF9 hG9
                refine hKK.out _ _ (by exact hT) (fun hHeld => ?_)
                clear hKK KK
                (try simp only [Act.put, List.setIfInBounds_toArray, List.set_cons_zero, List.set_cons_succ])
                refine wpAnyH_done (by kernel_rfl) ?_ _
                refine NoPanic.normal ?_
                (try go_wp2_with fail)
                go_meet
                exact ⟨b155, b161, b137, rfl, RES.out⟩
          · obtain ⟨wd166, hwd⟩ : ∃ u, u = w5.drew := ⟨_, rfl⟩
            have LD167 := Lib.hid (show Low w5.heap.size w5 wd166 from hwd ▸ (LZ.out).drew)
            rw [← hwd]
            clear hwd
            go_simp
            have l1 : Low wd166.heap.size wd166 (wd166.alloc (.cells #[.slice none 0 0, .slice none 0 0, .int .i64 0, .int .i64 0, .slice none 0 0, .slice none 0 0] 58)) := (Low.refl _ _).alloc (Nat.le_refl _) _
            have hb := heap_new wd166 (.cells #[.slice none 0 0, .slice none 0 0, .int .i64 0, .int .i64 0, .slice none 0 0, .slice none 0 0] 58)
            have hs := LD167.out.size
            obtain ⟨b170, hq⟩ : ∃ t, t = wd166.heap.size := ⟨_, rfl⟩
            rw [← hq] at hb hs ⊢
            clear hq
            generalize wd166.alloc (.cells #[.slice none 0 0, .slice none 0 0, .int .i64 0, .int .i64 0, .slice none 0 0, .slice none 0 0] 58) = w168 at l1 hb ⊢
            have B171 := Lib.hid hb; have HB172 := Lib.hid hs; have L169 := Lib.hid (LD167.out.trans (l1.mono LD167.out.size))
            clear l1 hb hs
            refine hKK.out _ _ (by exact hT) (fun hHeld => ?_)
            clear hKK KK
            (try simp only [Act.put, List.setIfInBounds_toArray, List.set_cons_zero, List.set_cons_succ])
            refine wpAnyH_ready (rs := [2, 5]) (by kernel_rfl) (by simp) ?_
            refine next_at (i := 2) rfl (fun KK hKK => ?_) (next_at (i := 5) rfl (fun KK hKK => ?_) AllReadyH.nil)
            · go_simp
              have l1 : Low w168.heap.size w168 (w168.alloc (.cells #[.slice none 0 0] 39)) := (Low.refl _ _).alloc (Nat.le_refl _) _
              have hb := heap_new w168 (.cells #[.slice none 0 0] 39)
              have hs := L169.out.size
              obtain ⟨b175, hq⟩ : ∃ t, t = w168.heap.size := ⟨_, rfl⟩
              rw [← hq] at hb hs ⊢
              clear hq
              generalize w168.alloc (.cells #[.slice none 0 0] 39) = w173 at l1 hb ⊢
              have B176 := Lib.hid hb; have HB177 := Lib.hid hs; have L174 := Lib.hid (L169.out.trans (l1.mono L169.out.size))
              have B178 := Lib.hid (l1.some B171.out)
              clear l1 hb hs
              refine hKK.out _ _ (by exact hT) (fun hHeld => ?_)
              clear hKK KK
              (try simp only [Act.put, List.setIfInBounds_toArray, List.set_cons_zero, List.set_cons_succ])
              refine wpAnyH_ready (rs := [5]) (by kernel_rfl) (by simp) ?_
              refine next_at (i := 5) rfl (fun KK hKK => ?_) AllReadyH.nil
              · go_simp
                have l1 : Low w173.heap.size w173 (w173.alloc (.cells #[.int .i64 0] 3)) := (Low.refl _ _).alloc (Nat.le_refl _) _
                have hb := heap_new w173 (.cells #[.int .i64 0] 3)
                have hs := L174.out.size
                obtain ⟨b181, hq⟩ : ∃ t, t = w173.heap.size := ⟨_, rfl⟩
                rw [← hq] at hb hs ⊢
                clear hq
                generalize w173.alloc (.cells #[.int .i64 0] 3) = w179 at l1 hb ⊢
                have B182 := Lib.hid hb; have HB183 := Lib.hid hs; have L180 := Lib.hid (L174.out.trans (l1.mono L174.out.size))
                have B184 := Lib.hid (l1.some B178.out)
                have B185 := Lib.hid (l1.some B176.out)
                clear l1 hb hs
                refine hKK.out _ _ (by exact hT) (fun hHeld => ?_)
                clear hKK KK
                (try simp only [Act.put, List.setIfInBounds_toArray, List.set_cons_zero, List.set_cons_succ])
                refine take_at (i := 8) (v := ?_) rfl (by kernel_rfl) (by kernel_rfl) (by kernel_rfl) (fun _ _ _ h => h) (by rfl) ?_ (by assumption) ?_
                rotate_left
                · intro w' hSw; have s0 := hSw; go_simp; (try with_reducible rfl)
                (try simp only [Act.put, List.setIfInBounds_toArray, List.set_cons_zero, List.set_cons_succ])
                have e0 : w179.cell? ⟨b170, 0, none⟩ = some (.slice none 0 0) := cell_of B184.out
                have f0 : w179.frozen? ⟨b170, 0, none⟩ = false := free_of B184.out
                have e1 : w179.cell? ⟨b170, 1, none⟩ = some (.slice none 0 0) := cell_of B184.out
                have f1 : w179.frozen? ⟨b170, 1, none⟩ = false := free_of B184.out
                have e2 : w179.cell? ⟨b170, 2, none⟩ = some (.int .i64 0) := cell_of B184.out
                have f2 : w179.frozen? ⟨b170, 2, none⟩ = false := free_of B184.out
                have e3 : w179.cell? ⟨b170, 3, none⟩ = some (.int .i64 0) := cell_of B184.out
                have f3 : w179.frozen? ⟨b170, 3, none⟩ = false := free_of B184.out
                have e4 : w179.cell? ⟨b170, 4, none⟩ = some (.slice none 0 0) := cell_of B184.out
                have f4 : w179.frozen? ⟨b170, 4, none⟩ = false := free_of B184.out
                have e5 : w179.cell? ⟨b170, 5, none⟩ = some (.slice none 0 0) := cell_of B184.out
                have f5 : w179.frozen? ⟨b170, 5, none⟩ = false := free_of B184.out
                refine wpAnyH_ready (rs := [10]) (by kernel_rfl) (by simp) ?_
                refine next_at (i := 10) rfl (fun KK hKK => ?_) AllReadyH.nil
                go_simp
                obtain ⟨hz1, hz2, hz3, hz4⟩ := six_sets (v0 := .slice (some ⟨b175, 0, none⟩) 1 1) (v1 := .slice (some ⟨b181, 0, none⟩) 1 1) (v2 := .int .i64 1) (v3 := .int .i64 (-1)) (v4 := .slice none 0 0) (v5 := .slice none 0 0) B184.out _ rfl
                have hlow := hz4 w5.heap.size (fun u => Low w5.heap.size w5 u) (Inv.low w5.heap.size w5 (Nat.le_refl _)) HB172.out L180.out
                have hgf : b175 ≠ b170 := by
                  rintro rfl
                  have h1 := B184.out
                  rw [B185.out] at h1; cases h1
                have hga : b181 ≠ b170 := by
                  rintro rfl
                  have h1 := B184.out
                  rw [B182.out] at h1; cases h1
                have hF9 := (hz2 _ hgf).trans B185.out
                have hG9 := (hz2 _ hga).trans B182.out
                clear hz2 hz3 hz4 hgf hga
                generalize World.setCell _ _ _ = w9 at hz1 hlow hF9 hG9 ⊢
                clear e0 e1 e2 e3 e4 e5 f0 f1 f2 f3 f4 f5
                have RES := Lib.hid (And.intro hlow (And.intro HB172.out (And.intro HB177.out (And.intro HB183.out (And.intro hz1 (And.intro hF9 hG9))))))
                clear hz1 hlow hF9 hG9
                refine hKK.out _ _ (by exact hT) (fun hHeld => ?_)
                clear hKK KK
                (try simp only [Act.put, List.setIfInBounds_toArray, List.set_cons_zero, List.set_cons_succ])
                refine wpAnyH_done (by kernel_rfl) ?_ _
                refine NoPanic.normal ?_
                (try go_wp2_with fail)
                go_meet
                exact ⟨b170, b175, b181, rfl, RES.out⟩
            · go_simp
              have l1 : Low w168.heap.size w168 (w168.alloc (.cells #[.int .i64 0] 3)) := (Low.refl _ _).alloc (Nat.le_refl _) _
              have hb := heap_new w168 (.cells #[.int .i64 0] 3)
              have hs := L169.out.size
              obtain ⟨b188, hq⟩ : ∃ t, t = w168.heap.size := ⟨_, rfl⟩
              rw [← hq] at hb hs ⊢
              clear hq
              generalize w168.alloc (.cells #[.int .i64 0] 3) = w186 at l1 hb ⊢
              have B189 := Lib.hid hb; have HB190 := Lib.hid hs; have L187 := Lib.hid (L169.out.trans (l1.mono L169.out.size))
              have B191 := Lib.hid (l1.some B171.out)
              clear l1 hb hs
              refine hKK.out _ _ (by exact hT) (fun hHeld => ?_)
              clear hKK KK
              (try simp only [Act.put, List.setIfInBounds_toArray, List.set_cons_zero, List.set_cons_succ])
              refine wpAnyH_ready (rs := [2]) (by kernel_rfl) (by simp) ?_
              refine next_at (i := 2) rfl (fun KK hKK => ?_) AllReadyH.nil
              · go_simp
                have l1 : Low w186.heap.size w186 (w186.alloc (.cells #[.slice none 0 0] 39)) := (Low.refl _ _).alloc (Nat.le_refl _) _
                have hb := heap_new w186 (.cells #[.slice none 0 0] 39)
                have hs := L187.out.size
                obtain ⟨b194, hq⟩ : ∃ t, t = w186.heap.size := ⟨_, rfl⟩
                rw [← hq] at hb hs ⊢
                clear hq
                generalize w186.alloc (.cells #[.slice none 0 0] 39) = w192 at l1 hb ⊢
                have B195 := Lib.hid hb; have HB196 := Lib.hid hs; have L193 := Lib.hid (L187.out.trans (l1.mono L187.out.size))
                have B197 := Lib.hid (l1.some B191.out)
                have B198 := Lib.hid (l1.some B189.out)
                clear l1 hb hs
                refine hKK.out _ _ (by exact hT) (fun hHeld => ?_)
                clear hKK KK
                (try simp only [Act.put, List.setIfInBounds_toArray, List.set_cons_zero, List.set_cons_succ])
                refine take_at (i := 8) (v := ?_) rfl (by kernel_rfl) (by kernel_rfl) (by kernel_rfl) (fun _ _ _ h => h) (by rfl) ?_ (by assumption) ?_
                rotate_left
                · intro w' hSw; have s0 := hSw; go_simp; (try with_reducible rfl)
                (try simp only [Act.put, List.setIfInBounds_toArray, List.set_cons_zero, List.set_cons_succ])
                have e0 : w192.cell? ⟨b170, 0, none⟩ = some (.slice none 0 0) := cell_of B197.out
                have f0 : w192.frozen? ⟨b170, 0, none⟩ = false := free_of B197.out
                have e1 : w192.cell? ⟨b170, 1, none⟩ = some (.slice none 0 0) := cell_of B197.out
                have f1 : w192.frozen? ⟨b170, 1, none⟩ = false := free_of B197.out
                have e2 : w192.cell? ⟨b170, 2, none⟩ = some (.int .i64 0) := cell_of B197.out
                have f2 : w192.frozen? ⟨b170, 2, none⟩ = false := free_of B197.out
                have e3 : w192.cell? ⟨b170, 3, none⟩ = some (.int .i64 0) := cell_of B197.out
                have f3 : w192.frozen? ⟨b170, 3, none⟩ = false := free_of B197.out
                have e4 : w192.cell? ⟨b170, 4, none⟩ = some (.slice none 0 0) := cell_of B197.out
                have f4 : w192.frozen? ⟨b170, 4, none⟩ = false := free_of B197.out
                have e5 : w192.cell? ⟨b170, 5, none⟩ = some (.slice none 0 0) := cell_of B197.out
                have f5 : w192.frozen? ⟨b170, 5, none⟩ = false := free_of B197.out
                refine wpAnyH_ready (rs := [10]) (by kernel_rfl) (by simp) ?_
                refine next_at (i := 10) rfl (fun KK hKK => ?_) AllReadyH.nil
                go_simp
                obtain ⟨hz1, hz2, hz3, hz4⟩ := six_sets (v0 := .slice (some ⟨b194, 0, none⟩) 1 1) (v1 := .slice (some ⟨b188, 0, none⟩) 1 1) (v2 := .int .i64 1) (v3 := .int .i64 (-1)) (v4 := .slice none 0 0) (v5 := .slice none 0 0) B197.out _ rfl
                have hlow := hz4 w5.heap.size (fun u => Low w5.heap.size w5 u) (Inv.low w5.heap.size w5 (Nat.le_refl _)) HB172.out L193.out
                have hgf : b194 ≠ b170 := by
                  rintro rfl
                  have h1 := B197.out
                  rw [B195.out] at h1; cases h1
                have hga : b188 ≠ b170 := by
                  rintro rfl
                  have h1 := B197.out
                  rw [B198.out] at h1; cases h1
                have hF9 := (hz2 _ hgf).trans B195.out
                have hG9 := (hz2 _ hga).trans B198.out
                clear hz2 hz3 hz4 hgf hga
                generalize World.setCell _ _ _ = w9 at hz1 hlow hF9 hG9 ⊢
                clear e0 e1 e2 e3 e4 e5 f0 f1 f2 f3 f4 f5
                have RES := Lib.hid (And.intro hlow (And.intro HB172.out (And.intro HB196.out (And.intro HB190.out (And.intro hz1 (And.intro hF9 hG9))))))
                clear hz1 hlow hF9 hG9
                refine hKK.out _ _ (by exact hT) (fun hHeld => ?_)
                clear hKK KK
                (try simp only [Act.put, List.setIfInBounds_toArray, List.set_cons_zero, List.set_cons_succ])
                refine wpAnyH_done (by kernel_rfl) ?_ _
                refine NoPanic.normal ?_
                (try go_wp2_with fail)
                go_meet
                exact ⟨b170, b194, b188, rfl, RES.out⟩
        case rest =>
          obtain ⟨t11, gf, ga, rfl, l6, ht11, hgf, hga, hT6, hF6, hG6⟩ := hcut
          obtain ⟨w6, rfl⟩ : ∃ u, u = wc := ⟨_, rfl⟩
          have L6 := Lib.hid l6; have T6 := Lib.hid hT6; have F6 := Lib.hid hF6; have G6 := Lib.hid hG6; have M6 := Lib.hid (M5.out.keep (l6.block _ (heap_lt M5.out)))
          have HT11 := Lib.hid ht11; have HGF := Lib.hid hgf; have HGA := Lib.hid hga
          clear l6 hT6 hF6 hG6 ht11 hgf hga hmkf hmka LZ hT
          have hrg := one_range M6.out
          have l7 : Low w6.heap.size w6 (w6.alloc (.mapIter (some cm) 1 #[] 1)) := (Low.refl _ w6).alloc (Nat.le_refl _) _
          have L7 := Lib.hid (L6.out.trans (l7.mono L6.out.size)); have T7 := Lib.hid (l7.some T6.out); have F7 := Lib.hid (l7.some F6.out); have G7 := Lib.hid (l7.some G6.out); have M7 := Lib.hid (M6.out.keep (l7.block _ (heap_lt M6.out)))
          have r7 := heap_new w6 (.mapIter (some cm) 1 #[] 1)
          have h67 := L6.out.size
          clear l7
          go_upto_region 23 with fail
          clear hrg
          obtain ⟨r6, hr6⟩ : ∃ t, t = w6.heap.size := ⟨_, rfl⟩
          rw [← hr6] at r7 h67 ⊢
          clear hr6
          generalize w6.alloc (.mapIter (some cm) 1 #[] 1) = w7 at r7 L7 T7 F7 G7 M7 ⊢
          have R7 := Lib.hid r7; have H67 := Lib.hid h67
          clear r7 h67
          go_loopw [12] (fun _ wr => wr = w7 ∨ (wr.heap[r6]? = some (.mapIter (some cm) 1 #[0] 1) ∧ Low w5.heap.size w5 wr ∧ wr.heap[t11]? = some (.cells #[.slice (some ⟨gf, 0, none⟩) 1 1, .slice (some ⟨ga, 0, none⟩) 1 1, .int .i64 1, .int .i64 (-1), .slice none 0 0, .slice none 0 0] 58 (0, 0)) ∧ wr.heap[gf]? = some (.cells #[.slice none 0 0] 39 (0, 0)) ∧ wr.heap[ga]? = some (.cells #[.int .i64 0] 3 (0, 0)) ∧ MapM wr cm 1)) (fun _ wr => iterLeft r6 wr)
          case atStart => exact .inl rfl
          case round =>
            rcases hrel with rfl | ⟨hr8, hl8, ht8, hf8, hg8, hm8⟩
            · obtain ⟨w7, rfl⟩ : ∃ u, u = wr := ⟨_, rfl⟩
              have hnx := fun ty => one_next1 (ty := ty) R7.out M7.out
              have hR8 := setBlock_at (.mapIter (some cm) 1 #[0] 1) (heap_lt R7.out)
              have hcc := Chs.setBlock (B := [r6]) w7 (List.mem_singleton.2 rfl) (.mapIter (some cm) 1 #[0] 1)
              have hoff : ∀ {b : Nat} {ob : Obj}, w7.heap[b]? = some ob → (∀ x y z u, ob ≠ .mapIter x y z u) → b ∉ [r6] := fun {b ob} hb hne hm => by
                rw [List.mem_singleton] at hm
                subst hm
                rw [R7.out] at hb
                exact hne _ _ _ _ (Option.some.inj hb).symm
              have L8 := Lib.hid (L7.out.trans (hcc.low (by intro b hb; rw [List.mem_singleton] at hb; have := H67.out; omega) L7.out.size))
              have t8 := hcc.obj T7.out (hoff T7.out (by intro _ _ _ _ hq; cases hq)); have g8 := hcc.obj G7.out (hoff G7.out (by intro _ _ _ _ hq; cases hq)); have F8 := Lib.hid (hcc.obj F7.out (hoff F7.out (by intro _ _ _ _ hq; cases hq)))
              have m8 : MapM (Go.ChangeMaps.setBlock w7 r6 (.mapIter (some cm) 1 #[0] 1)) cm 1 := hcc.obj M7.out (hoff M7.out (by intro _ _ _ _ hq; cases hq))
              have hen := one_entry hR8 m8
              have HML : Hid (iterLeft r6 w7 = 1) := Lib.hid (by unfold iterLeft; rw [R7.out]; rfl)
              clear hcc hoff
              generalize Go.ChangeMaps.setBlock w7 r6 (.mapIter (some cm) 1 #[0] 1) = w8 at hnx hR8 L8 t8 g8 F8 m8 hen ⊢
              have x11 : w8.cell? ⟨t11, 1, none⟩ = some (.slice (some ⟨ga, 0, none⟩) 1 1) := cell_of t8
              have xga : w8.cell? ⟨ga, 0, none⟩ = some (.int .i64 0) := cell_of g8
              have fga : w8.frozen? ⟨ga, 0, none⟩ = false := free_of g8
              have hc9 := Chs.setCell (B := [ga]) w8 (d := ga) (i := 0) (List.mem_singleton.2 rfl) (.int .i64 0)
              have hoff : ∀ {b : Nat} {ob : Obj}, w8.heap[b]? = some ob → (∀ x z, ob ≠ .cells x 3 z) → b ∉ [ga] := fun {b ob} hb hne hm => by
                rw [List.mem_singleton] at hm
                subst hm
                rw [g8] at hb
                exact hne _ _ (Option.some.inj hb).symm
              have R9 := Lib.hid (hc9.obj hR8 (hoff hR8 (by intro _ _ hq; cases hq)))
              have L9 := Lib.hid (L8.out.setCell (g := ga) (i := 0) HGA.out (.int .i64 0))
              have T9 := Lib.hid (hc9.obj t8 (hoff t8 (by intro _ _ hq; cases hq))); have F9 := Lib.hid (hc9.obj F8.out (hoff F8.out (by intro _ _ hq; cases hq)))
              have G9 := Lib.hid (show (w8.setCell ⟨ga, 0, none⟩ (.int .i64 0)).heap[ga]? = some (.cells #[.int .i64 0] 3 (0, 0)) from set_blk g8)
              have M9 := Lib.hid (show MapM (w8.setCell ⟨ga, 0, none⟩ (.int .i64 0)) cm 1 from hc9.obj m8 (hoff m8 (by intro _ _ hq; cases hq)))
              have HML2 : Hid (iterLeft r6 (w8.setCell ⟨ga, 0, none⟩ (.int .i64 0)) = 0) := Lib.hid (by unfold iterLeft; rw [R9.out]; rfl)
              clear hR8 t8 g8 m8 hc9 hoff
              go_wp2_with fail
              exact ⟨.inr ⟨R9.out, L9.out, T9.out, F9.out, G9.out, M9.out⟩, by rw [HML.out, HML2.out]; decide⟩
            · obtain ⟨w8, rfl⟩ : ∃ u, u = wr := ⟨_, rfl⟩
              have hnx := fun ty => one_next2 (ty := ty) hr8 hm8
              have L8 := Lib.hid hl8; have T8 := Lib.hid ht8; have F8 := Lib.hid hf8; have G8 := Lib.hid hg8
              clear hr8 hl8 ht8 hf8 hg8 hm8
              go_upto_region 26 with fail
              clear hnx
              have y11 : w8.cell? ⟨t11, 0, none⟩ = some (.slice (some ⟨gf, 0, none⟩) 1 1) := cell_of T8.out
              have y10 : w8.cell? ⟨t10, 0, none⟩ = some (.slice (some ⟨gh, 0, none⟩) 1 1) := cell_of (L8.out.some X5.out)
              have y1 : w8.cell? ⟨t1, 0, none⟩ = some (.slice (some ⟨g, 0, none⟩) 1 cg) := cell_of (L8.out.some A5.out)
              have hbs : ∀ u : World, (Instr.buildSlice 54 2 #[(0, .agg #[.slice (some ⟨gh, 0, none⟩) 1 1]), (1, .agg #[.slice (some ⟨g, 0, none⟩) 1 cg])]).run Tryz.prog u = .ok (.slice (some ⟨u.heap.size, 0, none⟩) 2 2) (u.alloc (.cells #[.slice (some ⟨gh, 0, none⟩) 1 1, .slice (some ⟨g, 0, none⟩) 1 cg] 39)) := fun u => by kernel_rfl
              have la : Low w8.heap.size w8 (w8.alloc (.cells #[.slice (some ⟨gh, 0, none⟩) 1 1, .slice (some ⟨g, 0, none⟩) 1 cg] 39)) := (Low.refl _ _).alloc (Nat.le_refl _) _
              have hown : Own (w8.alloc (.cells #[.slice (some ⟨gh, 0, none⟩) 1 1, .slice (some ⟨g, 0, none⟩) 1 cg] 39)) w5.heap.size 39 1 (.slice (some ⟨gf, 0, none⟩) 1 1) 1 [.slice none 0 0] := ⟨rfl, .inr ⟨gf, 1, #[.slice none 0 0], rfl, HGF.out, la.some F8.out, Nat.le_refl _, by decide, rfl, rfl⟩⟩
              have OW := Lib.hid hown; have TA := Lib.hid (la.some T8.out); have GA := Lib.hid (la.some G8.out); have LA := Lib.hid (L8.out.trans (la.mono L8.out.size))
              have HNT := Lib.hid (show t11 ≠ gf from by
                rintro rfl
                have h1 := T8.out
                rw [F8.out] at h1; cases h1)
              have HNG := Lib.hid (show ga ≠ gf from by
                rintro rfl
                have h1 := G8.out
                rw [F8.out] at h1; cases h1)
              clear hown la
              go_upto_region 27 with (first
                | (at_builtin; refine wpList_app1 (w := w8.alloc (.cells #[.slice (some ⟨gh, 0, none⟩) 1 1, .slice (some ⟨g, 0, none⟩) 1 cg] 39)) (P := Tryz.prog) (base := w5.heap.size) (n := 1) (m := 2) (xs := [.slice none 0 0]) ap54 rfl (.tmp 110) (.tmp 113) rfl rfl OW.out rfl (heap_new w8 _) rfl (by simp [Value.oneCell']) (by omega) LA.out.size ?_; intro v10 w10 happ0; have happ : App1 (w8.alloc (.cells #[.slice (some ⟨gh, 0, none⟩) 1 1, .slice (some ⟨g, 0, none⟩) 1 cg] 39)) w10 w5.heap.size 39 1 (.slice (some ⟨gf, 0, none⟩) 1 1) v10 1 [.slice none 0 0] 2 [.slice (some ⟨gh, 0, none⟩) 1 1, .slice (some ⟨g, 0, none⟩) 1 cg] := happ0; clear happ0; obtain ⟨gF, cF, csF, rfl, hgF, hF10, hcF, hown⟩ := happ.row (k := 3) rfl (by decide); have hk : ∀ b, b < (w8.alloc (.cells #[.slice (some ⟨gh, 0, none⟩) 1 1, .slice (some ⟨g, 0, none⟩) 1 cg] 39)).heap.size → b ≠ gf → w10.heap[b]? = (w8.alloc (.cells #[.slice (some ⟨gh, 0, none⟩) 1 1, .slice (some ⟨g, 0, none⟩) 1 cg] 39)).heap[b]? := fun b hb hne => happ.block b hb (by simpa [Value.ownBlock] using hne); have t10x := (hk t11 (heap_lt TA.out) HNT.out).trans TA.out; have x10 : w10.cell? ⟨t11, 0, none⟩ = some (.slice (some ⟨gf, 0, none⟩) 1 1) := cell_of t10x; have f10 : w10.frozen? ⟨t11, 0, none⟩ = false := free_of t10x; have T10 := Lib.hid t10x; have G10 := Lib.hid ((hk ga (heap_lt GA.out) HNG.out).trans GA.out); have L10 := Lib.hid (LA.out.trans (happ.low OW.out (Nat.le_refl _) LA.out.size)); have F10 := Lib.hid hF10; have OWN := Lib.hid hown; have HCF := Lib.hid hcF; have HGF2 := Lib.hid hgF; clear happ hk t10x hF10 hown hcF hgF y11 y10 y1))
              have k0 := Lib.hid (show csF[0]? = some (.slice none 0 0) from (cell_of F10.out).symm.trans (OWN.out.cell (j := 0) rfl))
              have k1 := Lib.hid (show csF[1]? = some (.slice (some ⟨gh, 0, none⟩) 1 1) from (cell_of F10.out).symm.trans (OWN.out.cell (j := 1) rfl))
              have k2 := Lib.hid (show csF[2]? = some (.slice (some ⟨g, 0, none⟩) 1 cg) from (cell_of F10.out).symm.trans (OWN.out.cell (j := 2) rfl))
              have hgt : gF ≠ t11 := by
                rintro rfl
                have h1 := T10.out
                rw [F10.out] at h1; cases h1
              have hat : ga ≠ t11 := by
                rintro rfl
                have h1 := T10.out
                rw [G10.out] at h1; cases h1
              have hb11 := set_blk (i := 0) (v := .slice (some ⟨gF, 0, none⟩) 3 cF) T10.out
              have F11 := Lib.hid ((set_other (i := 0) (v := .slice (some ⟨gF, 0, none⟩) 3 cF) hgt).trans F10.out); have G11 := Lib.hid ((set_other (i := 0) (v := .slice (some ⟨gF, 0, none⟩) 3 cF) hat).trans G10.out)
              have L11 := Lib.hid (L10.out.setCell (g := t11) (i := 0) HT11.out (.slice (some ⟨gF, 0, none⟩) 3 cF))
              have T11 := Lib.hid (show (w10.setCell ⟨t11, 0, none⟩ (.slice (some ⟨gF, 0, none⟩) 3 cF)).heap[t11]? = some (.cells #[.slice (some ⟨gF, 0, none⟩) 3 cF, .slice (some ⟨ga, 0, none⟩) 1 1, .int .i64 1, .int .i64 (-1), .slice none 0 0, .slice none 0 0] 58 (0, 0)) from hb11)
              clear hgt hat hb11 x10 f10 hbs
              generalize w10.setCell ⟨t11, 0, none⟩ (.slice (some ⟨gF, 0, none⟩) 3 cF) = w11 at F11 G11 L11 T11 ⊢
              have hbs : ∀ u : World, (Instr.buildSlice 22 2 #[(0, .int .i64 0), (1, .int .i64 1)]).run Tryz.prog u = .ok (.slice (some ⟨u.heap.size, 0, none⟩) 2 2) (u.alloc (.cells #[.int .i64 0, .int .i64 1] 3)) := fun u => by kernel_rfl
              have hS11 : w11.cell? ⟨t1, 0, none⟩ = some (.slice (some ⟨g, 0, none⟩) 1 cg) ∧ w11.cell? ⟨g, 0, none⟩ = some (.slice Pp 1 pc) := ⟨cell_of (L11.out.some A5.out), by
                obtain ⟨cs0, r0, r1, _⟩ := (H5.out.low L11.out).row
                exact (cell_of r0).trans r1⟩
              go_cut [] (fun wx => ∃ gA cA csA, wx.heap[t11]? = some (.cells #[.slice (some ⟨gF, 0, none⟩) 3 cF, .slice (some ⟨gA, 0, none⟩) 3 cA, .int .i64 1, .int .i64 (-1), .slice none 0 0, .slice none 0 0] 58 (0, 0)) ∧ Low w5.heap.size w5 wx ∧ wx.heap[gF]? = some (.cells csF 39 (0, 0)) ∧ wx.heap[gA]? = some (.cells csA 3 (0, 0)) ∧ csA[0]? = some (.int .i64 0) ∧ csA[1]? = some (.int .i64 0) ∧ csA[2]? = some (.int .i64 1))
              case first =>
                refine wp_region_noPanic ?_
                refine wp_region_held_drew (S := fun w' => w'.cell? ⟨t1, 0, none⟩ = some (.slice (some ⟨g, 0, none⟩) 1 cg) ∧ w'.cell? ⟨g, 0, none⟩ = some (.slice Pp 1 pc)) (by kernel_rfl) (by exact hS11) (fun hHeld => ?_)
                refine take_at (i := 0) (v := ?_) rfl (by kernel_rfl) (by kernel_rfl) (by kernel_rfl) (fun _ _ _ h => h) (by rfl) ?_ (by assumption) ?_
                rotate_left
                · intro w' hSw; obtain ⟨s0, s1⟩ := hSw; go_simp; (try with_reducible rfl)
                (try simp only [Act.put, List.setIfInBounds_toArray, List.set_cons_zero, List.set_cons_succ])
                refine take_at (i := 2) (v := ?_) rfl (by kernel_rfl) (by kernel_rfl) (by kernel_rfl) (fun _ _ _ h => h) (by rfl) ?_ (by assumption) ?_
                rotate_left
                · intro w' hSw; obtain ⟨s0, s1⟩ := hSw; go_simp; (try with_reducible rfl)
                (try simp only [Act.put, List.setIfInBounds_toArray, List.set_cons_zero, List.set_cons_succ])
                refine take_at (i := 3) (v := ?_) rfl (by kernel_rfl) (by kernel_rfl) (by kernel_rfl) (fun _ _ _ h => h) (by rfl) ?_ (by assumption) ?_
                rotate_left
                · intro w' hSw; obtain ⟨s0, s1⟩ := hSw; go_simp; (try with_reducible rfl)
                (try simp only [Act.put, List.setIfInBounds_toArray, List.set_cons_zero, List.set_cons_succ])
                refine take_at (i := 4) (v := ?_) rfl (by kernel_rfl) (by kernel_rfl) (by kernel_rfl) (fun _ _ _ h => h) (by rfl) ?_ (by assumption) ?_
                rotate_left
                · intro w' hSw; obtain ⟨s0, s1⟩ := hSw; go_simp; (try with_reducible rfl)
                (try simp only [Act.put, List.setIfInBounds_toArray, List.set_cons_zero, List.set_cons_succ])
                refine take_at (i := 5) (v := ?_) rfl (by kernel_rfl) (by kernel_rfl) (by kernel_rfl) (fun _ _ _ h => h) (by rfl) ?_ (by assumption) ?_
                rotate_left
                · intro w' hSw; obtain ⟨s0, s1⟩ := hSw; go_simp; (try with_reducible rfl)
                (try simp only [Act.put, List.setIfInBounds_toArray, List.set_cons_zero, List.set_cons_succ])
                refine take_at (i := 6) (v := ?_) rfl (by kernel_rfl) (by kernel_rfl) (by kernel_rfl) (fun _ _ _ h => h) (by rfl) ?_ (by assumption) ?_
                rotate_left
                · intro w' hSw; obtain ⟨s0, s1⟩ := hSw; go_simp; (try with_reducible rfl)
                (try simp only [Act.put, List.setIfInBounds_toArray, List.set_cons_zero, List.set_cons_succ])
                refine take_at (i := 7) (v := ?_) rfl (by kernel_rfl) (by kernel_rfl) (by kernel_rfl) (fun _ _ _ h => h) (by rfl) ?_ (by assumption) ?_
                rotate_left
                · intro w' hSw; obtain ⟨s0, s1⟩ := hSw; go_simp; (try with_reducible rfl)
                (try simp only [Act.put, List.setIfInBounds_toArray, List.set_cons_zero, List.set_cons_succ])
                refine wpAnyH_ready (rs := [1, 8]) (by kernel_rfl) (by simp) ?_
                refine next_at (i := 1) rfl (fun KK hKK => ?_) (next_at (i := 8) rfl (fun KK hKK => ?_) AllReadyH.nil)
                · obtain ⟨wd, hwd⟩ : ∃ u, u = w11.drew := ⟨_, rfl⟩
                  have ld : Low w11.heap.size w11 wd := hwd ▸ (Low.refl _ w11).drew
                  rw [← hwd]
                  clear hwd
                  have LD := Lib.hid (L11.out.trans (ld.mono L11.out.size)); have TD := Lib.hid (ld.some T11.out); have FD := Lib.hid (ld.some F11.out); have GD := Lib.hid (ld.some G11.out)
                  clear ld
                  have xg : (wd).cell? ⟨t11, 1, none⟩ = some (.slice (some ⟨ga, 0, none⟩) 1 1) := cell_of TD.out
                  have hSd : wd.cell? ⟨t1, 0, none⟩ = some (.slice (some ⟨g, 0, none⟩) 1 cg) ∧ wd.cell? ⟨g, 0, none⟩ = some (.slice Pp 1 pc) := ⟨cell_of (LD.out.some A5.out), by
                    obtain ⟨cs0, r0, r1, _⟩ := (H5.out.low LD.out).row
                    exact (cell_of r0).trans r1⟩
                  go_simp
                  refine hKK.out _ _ (by exact hSd) (fun hHeld => ?_)
                  clear hKK KK
                  (try simp only [Act.put, List.setIfInBounds_toArray, List.set_cons_zero, List.set_cons_succ])
                  clear xg
                  refine wpAnyH_ready (rs := [8]) (by kernel_rfl) (by simp) ?_
                  refine next_at (i := 8) rfl (fun KK hKK => ?_) AllReadyH.nil
                  have la : Low wd.heap.size wd (wd.alloc (.cells #[.int .i64 0, .int .i64 1] 3)) := (Low.refl _ _).alloc (Nat.le_refl _) _
                  have hown : Own (wd.alloc (.cells #[.int .i64 0, .int .i64 1] 3)) w5.heap.size 3 1 (.slice (some ⟨ga, 0, none⟩) 1 1) 1 [.int .i64 0] := ⟨rfl, .inr ⟨ga, 1, #[.int .i64 0], rfl, HGA.out, la.some GD.out, Nat.le_refl _, by decide, rfl, rfl⟩⟩
                  have OW2 := Lib.hid hown; have TA2 := Lib.hid (la.some TD.out); have FA2 := Lib.hid (la.some FD.out); have GA2 := Lib.hid (la.some GD.out); have LA2 := Lib.hid (LD.out.trans (la.mono LD.out.size)); have XA2 := Lib.hid (heap_new wd (.cells #[.int .i64 0, .int .i64 1] 3))
                  have hSa : (wd.alloc (.cells #[.int .i64 0, .int .i64 1] 3)).cell? ⟨t1, 0, none⟩ = some (.slice (some ⟨g, 0, none⟩) 1 cg) ∧ (wd.alloc (.cells #[.int .i64 0, .int .i64 1] 3)).cell? ⟨g, 0, none⟩ = some (.slice Pp 1 pc) := ⟨cell_of (LA2.out.some A5.out), by
                    obtain ⟨cs0, r0, r1, _⟩ := (H5.out.low LA2.out).row
                    exact (cell_of r0).trans r1⟩
                  clear hown la
                  go_simp
                  refine hKK.out _ _ (by exact hSa) (fun hHeld => ?_)
                  clear hKK KK
                  (try simp only [Act.put, List.setIfInBounds_toArray, List.set_cons_zero, List.set_cons_succ])
                  refine wpAnyH_ready (rs := [9]) (by kernel_rfl) (by simp) ?_
                  refine next_at (i := 9) rfl (fun KK hKK => ?_) AllReadyH.nil
                  refine step_app1 (w := wd.alloc (.cells #[.int .i64 0, .int .i64 1] 3)) (P := Tryz.prog) (base := w5.heap.size) (n := 1) (m := 2) (xs := [.int .i64 0]) ap22 rfl (.tmp 117) (.tmp 124) rfl rfl OW2.out rfl XA2.out rfl (by simp [Value.oneCell']) (by omega) LA2.out.size ?_
                  intro vA w13 happ0
                  have happ : App1 (wd.alloc (.cells #[.int .i64 0, .int .i64 1] 3)) w13 w5.heap.size 3 1 (.slice (some ⟨ga, 0, none⟩) 1 1) vA 1 [.int .i64 0] 2 [.int .i64 0, .int .i64 1] := happ0
                  clear happ0
                  obtain ⟨gA, cA, csA, rfl, hgA, hA13, hcA, hown⟩ := happ.row (k := 3) rfl (by decide)
                  have hk : ∀ b, b < (wd.alloc (.cells #[.int .i64 0, .int .i64 1] 3)).heap.size → b ≠ ga → w13.heap[b]? = (wd.alloc (.cells #[.int .i64 0, .int .i64 1] 3)).heap[b]? := fun b hb hne => happ.block b hb (by simpa [Value.ownBlock] using hne)
                  have hta : t11 ≠ ga := by
                    rintro rfl
                    have h1 := T11.out
                    rw [G11.out] at h1; cases h1
                  have hfa : gF ≠ ga := by
                    rintro rfl
                    have h1 := F11.out
                    rw [G11.out] at h1; cases h1
                  have t13 := (hk t11 (heap_lt TA2.out) hta).trans TA2.out
                  have F13 := Lib.hid ((hk gF (heap_lt FA2.out) hfa).trans FA2.out)
                  have L13 := Lib.hid (LA2.out.trans (happ.low OW2.out (Nat.le_refl _) LA2.out.size))
                  have A13 := Lib.hid hA13; have OA := Lib.hid hown
                  have x13 : w13.cell? ⟨t11, 1, none⟩ = some (.slice (some ⟨ga, 0, none⟩) 1 1) := cell_of t13
                  have f13 : w13.frozen? ⟨t11, 1, none⟩ = false := free_of t13
                  have T13 := Lib.hid t13
                  clear happ hk hta hfa t13 hA13 hown hcA hgA
                  have hS13 : w13.cell? ⟨t1, 0, none⟩ = some (.slice (some ⟨g, 0, none⟩) 1 cg) ∧ w13.cell? ⟨g, 0, none⟩ = some (.slice Pp 1 pc) := ⟨cell_of (L13.out.some A5.out), by
                    obtain ⟨cs0, r0, r1, _⟩ := (H5.out.low L13.out).row
                    exact (cell_of r0).trans r1⟩
                  refine hKK.out _ _ (by exact hS13) (fun hHeld => ?_)
                  clear hKK KK
                  (try simp only [Act.put, List.setIfInBounds_toArray, List.set_cons_zero, List.set_cons_succ])
                  refine take_at (i := 10) (v := ?_) rfl (by kernel_rfl) (by kernel_rfl) (by kernel_rfl) (fun _ _ _ h => h) (by rfl) ?_ (by assumption) ?_
                  rotate_left
                  · intro w' hSw; obtain ⟨s0, s1⟩ := hSw; go_simp; (try with_reducible rfl)
                  (try simp only [Act.put, List.setIfInBounds_toArray, List.set_cons_zero, List.set_cons_succ])
                  refine wpAnyH_ready (rs := [11]) (by kernel_rfl) (by simp) ?_
                  refine next_at (i := 11) rfl (fun KK hKK => ?_) AllReadyH.nil
                  go_simp
                  have hgt : gF ≠ t11 := by
                    rintro rfl
                    have h1 := T13.out
                    rw [F13.out] at h1; cases h1
                  have hat : gA ≠ t11 := by
                    rintro rfl
                    have h1 := T13.out
                    rw [A13.out] at h1; cases h1
                  have hb14 := set_blk (i := 1) (v := .slice (some ⟨gA, 0, none⟩) 3 cA) T13.out
                  have L14 := Lib.hid (L13.out.setCell (g := t11) (i := 1) HT11.out (.slice (some ⟨gA, 0, none⟩) 3 cA))
                  have RES := Lib.hid (And.intro (show (w13.setCell ⟨t11, 1, none⟩ (.slice (some ⟨gA, 0, none⟩) 3 cA)).heap[t11]? = some (.cells #[.slice (some ⟨gF, 0, none⟩) 3 cF, .slice (some ⟨gA, 0, none⟩) 3 cA, .int .i64 1, .int .i64 (-1), .slice none 0 0, .slice none 0 0] 58 (0, 0)) from hb14) (And.intro L14.out (And.intro ((set_other (i := 1) (v := .slice (some ⟨gA, 0, none⟩) 3 cA) hgt).trans F13.out) ((set_other (i := 1) (v := .slice (some ⟨gA, 0, none⟩) 3 cA) hat).trans A13.out))))
                  clear hgt hat hb14 x13 f13
                  generalize w13.setCell ⟨t11, 1, none⟩ (.slice (some ⟨gA, 0, none⟩) 3 cA) = w14 at L14 RES ⊢
                  have hS14 : w14.cell? ⟨t1, 0, none⟩ = some (.slice (some ⟨g, 0, none⟩) 1 cg) ∧ w14.cell? ⟨g, 0, none⟩ = some (.slice Pp 1 pc) := ⟨cell_of (L14.out.some A5.out), by
                    obtain ⟨cs0, r0, r1, _⟩ := (H5.out.low L14.out).row
                    exact (cell_of r0).trans r1⟩
                  refine hKK.out _ _ (by exact hS14) (fun hHeld => ?_)
                  clear hKK KK
                  (try simp only [Act.put, List.setIfInBounds_toArray, List.set_cons_zero, List.set_cons_succ])
                  refine wpAnyH_done (by kernel_rfl) ?_ _
                  refine NoPanic.normal ?_
                  (try go_wp2_with fail)
                  go_meet
                  exact ⟨gA, cA, csA, RES.out.1, RES.out.2.1, RES.out.2.2.1, RES.out.2.2.2, (cell_of A13.out).symm.trans (OA.out.cell (j := 0) rfl), (cell_of A13.out).symm.trans (OA.out.cell (j := 1) rfl), (cell_of A13.out).symm.trans (OA.out.cell (j := 2) rfl)⟩
                · obtain ⟨wd, hwd⟩ : ∃ u, u = w11.drew := ⟨_, rfl⟩
                  have ld : Low w11.heap.size w11 wd := hwd ▸ (Low.refl _ w11).drew
                  rw [← hwd]
                  clear hwd
                  have LD := Lib.hid (L11.out.trans (ld.mono L11.out.size)); have TD := Lib.hid (ld.some T11.out); have FD := Lib.hid (ld.some F11.out); have GD := Lib.hid (ld.some G11.out)
                  clear ld
                  have la : Low wd.heap.size wd (wd.alloc (.cells #[.int .i64 0, .int .i64 1] 3)) := (Low.refl _ _).alloc (Nat.le_refl _) _
                  have hown : Own (wd.alloc (.cells #[.int .i64 0, .int .i64 1] 3)) w5.heap.size 3 1 (.slice (some ⟨ga, 0, none⟩) 1 1) 1 [.int .i64 0] := ⟨rfl, .inr ⟨ga, 1, #[.int .i64 0], rfl, HGA.out, la.some GD.out, Nat.le_refl _, by decide, rfl, rfl⟩⟩
                  have OW2 := Lib.hid hown; have TA2 := Lib.hid (la.some TD.out); have FA2 := Lib.hid (la.some FD.out); have GA2 := Lib.hid (la.some GD.out); have LA2 := Lib.hid (LD.out.trans (la.mono LD.out.size)); have XA2 := Lib.hid (heap_new wd (.cells #[.int .i64 0, .int .i64 1] 3))
                  have hSa : (wd.alloc (.cells #[.int .i64 0, .int .i64 1] 3)).cell? ⟨t1, 0, none⟩ = some (.slice (some ⟨g, 0, none⟩) 1 cg) ∧ (wd.alloc (.cells #[.int .i64 0, .int .i64 1] 3)).cell? ⟨g, 0, none⟩ = some (.slice Pp 1 pc) := ⟨cell_of (LA2.out.some A5.out), by
                    obtain ⟨cs0, r0, r1, _⟩ := (H5.out.low LA2.out).row
                    exact (cell_of r0).trans r1⟩
                  clear hown la
                  go_simp
                  refine hKK.out _ _ (by exact hSa) (fun hHeld => ?_)
                  clear hKK KK
                  (try simp only [Act.put, List.setIfInBounds_toArray, List.set_cons_zero, List.set_cons_succ])
                  have xg : (wd.alloc (.cells #[.int .i64 0, .int .i64 1] 3)).cell? ⟨t11, 1, none⟩ = some (.slice (some ⟨ga, 0, none⟩) 1 1) := cell_of TA2.out
                  refine wpAnyH_ready (rs := [1]) (by kernel_rfl) (by simp) ?_
                  refine next_at (i := 1) rfl (fun KK hKK => ?_) AllReadyH.nil
                  go_simp
                  refine hKK.out _ _ (by exact hSa) (fun hHeld => ?_)
                  clear hKK KK
                  (try simp only [Act.put, List.setIfInBounds_toArray, List.set_cons_zero, List.set_cons_succ])
                  clear xg
                  refine wpAnyH_ready (rs := [9]) (by kernel_rfl) (by simp) ?_
                  refine next_at (i := 9) rfl (fun KK hKK => ?_) AllReadyH.nil
                  refine step_app1 (w := wd.alloc (.cells #[.int .i64 0, .int .i64 1] 3)) (P := Tryz.prog) (base := w5.heap.size) (n := 1) (m := 2) (xs := [.int .i64 0]) ap22 rfl (.tmp 117) (.tmp 124) rfl rfl OW2.out rfl XA2.out rfl (by simp [Value.oneCell']) (by omega) LA2.out.size ?_
                  intro vA w13 happ0
                  have happ : App1 (wd.alloc (.cells #[.int .i64 0, .int .i64 1] 3)) w13 w5.heap.size 3 1 (.slice (some ⟨ga, 0, none⟩) 1 1) vA 1 [.int .i64 0] 2 [.int .i64 0, .int .i64 1] := happ0
                  clear happ0
                  obtain ⟨gA, cA, csA, rfl, hgA, hA13, hcA, hown⟩ := happ.row (k := 3) rfl (by decide)
                  have hk : ∀ b, b < (wd.alloc (.cells #[.int .i64 0, .int .i64 1] 3)).heap.size → b ≠ ga → w13.heap[b]? = (wd.alloc (.cells #[.int .i64 0, .int .i64 1] 3)).heap[b]? := fun b hb hne => happ.block b hb (by simpa [Value.ownBlock] using hne)
                  have hta : t11 ≠ ga := by
                    rintro rfl
                    have h1 := T11.out
                    rw [G11.out] at h1; cases h1
                  have hfa : gF ≠ ga := by
                    rintro rfl
                    have h1 := F11.out
                    rw [G11.out] at h1; cases h1
                  have t13 := (hk t11 (heap_lt TA2.out) hta).trans TA2.out
                  have F13 := Lib.hid ((hk gF (heap_lt FA2.out) hfa).trans FA2.out)
                  have L13 := Lib.hid (LA2.out.trans (happ.low OW2.out (Nat.le_refl _) LA2.out.size))
                  have A13 := Lib.hid hA13; have OA := Lib.hid hown
                  have x13 : w13.cell? ⟨t11, 1, none⟩ = some (.slice (some ⟨ga, 0, none⟩) 1 1) := cell_of t13
                  have f13 : w13.frozen? ⟨t11, 1, none⟩ = false := free_of t13
                  have T13 := Lib.hid t13
                  clear happ hk hta hfa t13 hA13 hown hcA hgA
                  have hS13 : w13.cell? ⟨t1, 0, none⟩ = some (.slice (some ⟨g, 0, none⟩) 1 cg) ∧ w13.cell? ⟨g, 0, none⟩ = some (.slice Pp 1 pc) := ⟨cell_of (L13.out.some A5.out), by
                    obtain ⟨cs0, r0, r1, _⟩ := (H5.out.low L13.out).row
                    exact (cell_of r0).trans r1⟩
                  refine hKK.out _ _ (by exact hS13) (fun hHeld => ?_)
                  clear hKK KK
                  (try simp only [Act.put, List.setIfInBounds_toArray, List.set_cons_zero, List.set_cons_succ])
                  refine take_at (i := 10) (v := ?_) rfl (by kernel_rfl) (by kernel_rfl) (by kernel_rfl) (fun _ _ _ h => h) (by rfl) ?_ (by assumption) ?_
                  rotate_left
                  · intro w' hSw; obtain ⟨s0, s1⟩ := hSw; go_simp; (try with_reducible rfl)
                  (try simp only [Act.put, List.setIfInBounds_toArray, List.set_cons_zero, List.set_cons_succ])
                  refine wpAnyH_ready (rs := [11]) (by kernel_rfl) (by simp) ?_
                  refine next_at (i := 11) rfl (fun KK hKK => ?_) AllReadyH.nil
                  go_simp
                  have hgt : gF ≠ t11 := by
                    rintro rfl
                    have h1 := T13.out
                    rw [F13.out] at h1; cases h1
                  have hat : gA ≠ t11 := by
                    rintro rfl
                    have h1 := T13.out
                    rw [A13.out] at h1; cases h1
                  have hb14 := set_blk (i := 1) (v := .slice (some ⟨gA, 0, none⟩) 3 cA) T13.out
                  have L14 := Lib.hid (L13.out.setCell (g := t11) (i := 1) HT11.out (.slice (some ⟨gA, 0, none⟩) 3 cA))
                  have RES := Lib.hid (And.intro (show (w13.setCell ⟨t11, 1, none⟩ (.slice (some ⟨gA, 0, none⟩) 3 cA)).heap[t11]? = some (.cells #[.slice (some ⟨gF, 0, none⟩) 3 cF, .slice (some ⟨gA, 0, none⟩) 3 cA, .int .i64 1, .int .i64 (-1), .slice none 0 0, .slice none 0 0] 58 (0, 0)) from hb14) (And.intro L14.out (And.intro ((set_other (i := 1) (v := .slice (some ⟨gA, 0, none⟩) 3 cA) hgt).trans F13.out) ((set_other (i := 1) (v := .slice (some ⟨gA, 0, none⟩) 3 cA) hat).trans A13.out))))
                  clear hgt hat hb14 x13 f13
                  generalize w13.setCell ⟨t11, 1, none⟩ (.slice (some ⟨gA, 0, none⟩) 3 cA) = w14 at L14 RES ⊢
                  have hS14 : w14.cell? ⟨t1, 0, none⟩ = some (.slice (some ⟨g, 0, none⟩) 1 cg) ∧ w14.cell? ⟨g, 0, none⟩ = some (.slice Pp 1 pc) := ⟨cell_of (L14.out.some A5.out), by
                    obtain ⟨cs0, r0, r1, _⟩ := (H5.out.low L14.out).row
                    exact (cell_of r0).trans r1⟩
                  refine hKK.out _ _ (by exact hS14) (fun hHeld => ?_)
                  clear hKK KK
                  (try simp only [Act.put, List.setIfInBounds_toArray, List.set_cons_zero, List.set_cons_succ])
                  refine wpAnyH_done (by kernel_rfl) ?_ _
                  refine NoPanic.normal ?_
                  (try go_wp2_with fail)
                  go_meet
                  exact ⟨gA, cA, csA, RES.out.1, RES.out.2.1, RES.out.2.2.1, RES.out.2.2.2, (cell_of A13.out).symm.trans (OA.out.cell (j := 0) rfl), (cell_of A13.out).symm.trans (OA.out.cell (j := 1) rfl), (cell_of A13.out).symm.trans (OA.out.cell (j := 2) rfl)⟩
              case rest =>
                clear hS11 hbs
                obtain ⟨gA, cA, csA, hT14, l14, hF14, hA14, hk0, hk1, hk2⟩ := hcut
                obtain ⟨w14, rfl⟩ : ∃ u, u = wc := ⟨_, rfl⟩
                have hval : Calls Tryz.prog 25 #[.agg #[.slice (some ⟨gF, 0, none⟩) 3 cF, .slice (some ⟨gA, 0, none⟩) 3 cA, .int .i64 1, .int .i64 (-1), .slice none 0 0, .slice none 0 0]] w14 (fun r w' => Low w14.heap.size w14 w' ∧ r = .returned (.int .i64 0)) := by
                  refine valid_of w14 (some ⟨gF, 0, none⟩) 3 cF _ _ _ _ _ (by decide) (fun u hu => ?_) (fun u hu j hj => ?_)
                  · exact header_any u (some ⟨gF, 0, none⟩) 3 cF gA cA 1 csA (by decide) (by decide) (hu.some hA14) hk1 (by
                      intro j hj
                      match j with
                      | 0 => exact ⟨0, hk0, by decide, by decide⟩
                      | 1 => exact ⟨0, hk1, by decide, by decide⟩
                      | 2 => exact ⟨1, hk2, by decide, by decide⟩
                      | j + 3 => omega
                    )
                  · have hFu := hu.some hF14; have hAu := hu.some hA14
                    have hlu := Low.trans l14 (hu.mono l14.size)
                    have hhu := HH5.out.low hlu; have hfu := H5.out.low hlu
                    match j with
                    | 0 => exact function_empty u gF 3 cF 0 _ _ _ _ _ ((cell_of hFu).trans k0.out) (by decide) (by decide)
                    | 1 => exact function_halt u gF 3 cF gA 3 cA 1 1 (-1) gh 1 hhu ((cell_of hFu).trans k1.out) ((cell_of hAu).trans hk1) (by decide) (by decide) (by decide) (by decide)
                    | 2 => exact function_one u gF 3 cF gA 3 cA 1 2 (-1) g cg Pp pc A n c T tc l hfu ((cell_of hFu).trans k2.out) ((cell_of hAu).trans hk2) (by decide) (by decide) (by decide) (by decide) HN.out HRES.out (fun _ => (cell_of hAu).trans hk0)
                    | j + 3 => omega
                have L14 := Lib.hid (L5.out.trans (l14.mono L5.out.size)); have T14 := Lib.hid hT14
                clear l14 hF14 hA14 hk0 hk1 hk2 hT14
                have y0 : w14.cell? ⟨t11, 0, none⟩ = some (.slice (some ⟨gF, 0, none⟩) 3 cF) := cell_of T14.out
                have y1 : w14.cell? ⟨t11, 1, none⟩ = some (.slice (some ⟨gA, 0, none⟩) 3 cA) := cell_of T14.out
                have y2 : w14.cell? ⟨t11, 2, none⟩ = some (.int .i64 1) := cell_of T14.out
                have y3 : w14.cell? ⟨t11, 3, none⟩ = some (.int .i64 (-1)) := cell_of T14.out
                have y4 : w14.cell? ⟨t11, 4, none⟩ = some (.slice none 0 0) := cell_of T14.out
                have y5 : w14.cell? ⟨t11, 5, none⟩ = some (.slice none 0 0) := cell_of T14.out
                go_wp2_with fail
                go_loopw [128] (fun i wr => i = .int .i64 0 ∧ wr = w14) (fun _ _ => 0)
                case atStart => exact ⟨rfl, rfl⟩
                case round =>
                  obtain ⟨rfl, rfl⟩ := hrel
                  go_wp2_with (first
                    | (go_at_call 25; with_reducible refine hval.mono ?_; rintro r w15 ⟨l15, rfl⟩))
                  go_ret
                  exact ⟨rfl, L14.out.trans (Low.mono l15 L14.out.size)⟩
end Go.Proofs.YtnjdegjpmbdboaaGreat
