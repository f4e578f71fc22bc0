/- ir's checker: a function of one block, with operations. -/
import Derived.Test.YtnjdegjpmbdboaaGreatRO
namespace Go.Proofs.YtnjdegjpmbdboaaGreat
open Go.RowKit
set_option linter.unusedVariables false
theorem FnAt.chs1 {w w' : World} {g : Nat} {Pp : Option Addr} {pc : Nat} {A : Option Addr} {n c : Nat} {T : Option Addr} {tc : Nat} {l : List Opn} {b : Nat} {cs : Array Value} (h : FnAt w g Pp pc A n c T tc l) (hc : Chs [b] w w') (hb : w.heap[b]? = some (.cells cs 137 (0, 0))) : FnAt w' g Pp pc A n c T tc l := by
  have hoff : ∀ {d : Nat} {cs' : Array Value} {e : TypeId}, w.heap[d]? = some (.cells cs' e (0, 0)) → e ≠ 137 → d ∉ [b] := fun {d cs' e} hd he hm => by
    rw [List.mem_singleton] at hm
    subst hm
    rw [hb] at hd
    cases hd
    exact he rfl
  obtain ⟨cs3, r0, r1⟩ := h.row
  obtain ⟨gp, cp, e, hpc, hgp, hp0⟩ := h.par
  refine ⟨⟨cs3, hc.obj r0 (hoff r0 (by decide)), r1⟩, ⟨h.ops.1, fun j o ho => ?_⟩, ⟨gp, cp, e, hpc, hc.obj hgp (hoff hgp (by decide)), hp0⟩, h.ok, h.small, h.inc⟩
  obtain ⟨ga, cs1, e1, hn, hg, k⟩ := h.ops.2 j o ho
  exact ⟨ga, cs1, e1, hn, hc.obj hg (hoff hg (by decide)), k⟩
set_option maxRecDepth 100000 in
set_option maxHeartbeats 16000000 in
theorem function_one (w : World) (gf nf cf ga na ca e k : Nat) (hh : Int) (g cg : Nat) (Pp : Option Addr) (pc : Nat) (A : Option Addr) (n cc : Nat) (T : Option Addr) (tc : Nat) (l : List Opn) (h : FnAt w g Pp pc A n cc T tc l) (hF : w.cell? ⟨gf, k, none⟩ = some (.slice (some ⟨g, 0, none⟩) 1 cg)) (hA : w.cell? ⟨ga, k, none⟩ = some (.int .i64 1)) (hk : k < nf) (hka : k < na) (hnf : nf ≤ 4) (hna : na ≤ 4) (hN : ∀ o ∈ l, NOk o) (hres : ∀ o ∈ l, o.res ≤ 65535) (hco : (∃ o ∈ l, o.code = 26) → w.cell? ⟨ga, 0, none⟩ = some (.int .i64 0)) :
    Calls Tryz.prog 69 #[.agg #[.slice (some ⟨gf, 0, none⟩) nf cf, .slice (some ⟨ga, 0, none⟩) na ca, .int .i64 e, .int .i64 hh, .slice none 0 0, .slice none 0 0], .int .i64 k] w (fun r w' => Low w.heap.size w w' ∧ r = .returned (.bool true)) := by
  have hm53 : ∀ u : World, (Instr.makeMap 53 none).run Tryz.prog u = .ok (.map (some u.heap.size)) (u.alloc (.map #[] 0)) := fun u => by kernel_rfl
  have l1 : Low w.heap.size w (w.alloc (.cells #[.slice (some ⟨gf, 0, none⟩) nf cf, .slice (some ⟨ga, 0, none⟩) na ca, .int .i64 e, .int .i64 hh, .slice none 0 0, .slice none 0 0] 58)) := (Low.refl _ w).alloc (Nat.le_refl _) _
  have a1 := heap_new w (.cells #[.slice (some ⟨gf, 0, none⟩) nf cf, .slice (some ⟨ga, 0, none⟩) na ca, .int .i64 e, .int .i64 hh, .slice none 0 0, .slice none 0 0] 58)
  have f1 := cell_low hF l1; have e1 := cell_low hA l1
  have H := Lib.hid h
  have HN := Lib.hid hN; have HRES := Lib.hid hres; have HCO := Lib.hid hco
  have hk0 : (0 : Int) ≤ (k : Int) := by omega
  have hk1 : (k : Int) < (nf : Int) := by omega
  have hk2 : (k : Int) < (na : Int) := by omega
  have hk3 : (k : Int) ≤ 4 := by omega
  clear h hF hA hN hres hco
  go_enter Tryz.func69, Tryz.ntmps69
  go_upto_region 1 with fail
  obtain ⟨t2, ht2⟩ : ∃ t, t = w.heap.size := ⟨_, rfl⟩
  rw [← ht2] at a1 ⊢
  have HT2 := Lib.hid ht2
  clear ht2
  generalize w.alloc (.cells #[.slice (some ⟨gf, 0, none⟩) nf cf, .slice (some ⟨ga, 0, none⟩) na ca, .int .i64 e, .int .i64 hh, .slice none 0 0, .slice none 0 0] 58) = w1 at a1 l1 f1 e1 ⊢
  have y0 : w1.cell? ⟨t2, 0, none⟩ = some (.slice (some ⟨gf, 0, none⟩) nf cf) := cell_of a1
  have l2 : Low w1.heap.size w1 (w1.alloc (.cells #[.slice (some ⟨g, 0, none⟩) 1 cg] 39)) := (Low.refl _ w1).alloc (Nat.le_refl _) _
  have a2 := heap_new w1 (.cells #[.slice (some ⟨g, 0, none⟩) 1 cg] 39)
  have L2 := Lib.hid (l1.trans (l2.mono l1.size)); have B2 := Lib.hid (l2.some a1); have E2 := Lib.hid (cell_low e1 l2); have hs1 := l1.size
  clear l1 l2 a1 e1
  go_upto_region 2 with fail
  obtain ⟨t5, ht5⟩ : ∃ t, t = w1.heap.size := ⟨_, rfl⟩
  rw [← ht5] at a2 hs1 ⊢
  clear ht5
  generalize w1.alloc (.cells #[.slice (some ⟨g, 0, none⟩) 1 cg] 39) = w2 at a2 L2 B2 E2 ⊢
  clear y0 f1
  have HS5 := Lib.hid hs1
  clear hs1
  have z0 : w2.cell? ⟨t2, 0, none⟩ = some (.slice (some ⟨gf, 0, none⟩) nf cf) := cell_of B2.out
  have z1 : w2.cell? ⟨t2, 1, none⟩ = some (.slice (some ⟨ga, 0, none⟩) na ca) := cell_of B2.out
  have z2 : w2.cell? ⟨t2, 2, none⟩ = some (.int .i64 e) := cell_of B2.out
  have z3 : w2.cell? ⟨t2, 3, none⟩ = some (.int .i64 hh) := cell_of B2.out
  have z4 : w2.cell? ⟨t2, 4, none⟩ = some (.slice none 0 0) := cell_of B2.out
  have z5 : w2.cell? ⟨t2, 5, none⟩ = some (.slice none 0 0) := cell_of B2.out
  have x5 : w2.cell? ⟨t5, 0, none⟩ = some (.slice (some ⟨g, 0, none⟩) 1 cg) := cell_of a2
  have A2 := Lib.hid a2
  obtain ⟨bm, hbm⟩ : ∃ Q, w2.heap.size = Q := ⟨_, rfl⟩
  clear a2
  go_upto_region 5 with fail
  obtain ⟨am, ham⟩ : ∃ t, t = bm + 1 := ⟨_, rfl⟩
  obtain ⟨c, hc⟩ : ∃ t, t = bm + 1 + 1 := ⟨_, rfl⟩
  rw [← hc, ← ham]
  have hv := chk_vars #[.slice (some ⟨gf, 0, none⟩) nf cf, .slice (some ⟨ga, 0, none⟩) na ca, .int .i64 e, .int .i64 hh, .slice none 0 0, .slice none 0 0, .slice (some ⟨g, 0, none⟩) 1 cg, .map (some bm), .map (some am), .slice none 0 0] hbm ham hc _ rfl
  have HB := Lib.hid hbm
  have hbam : bm ≠ am := by omega
  have HC3 := Lib.hid (And.intro ham hc)
  clear hm53 z0 z1 z2 z3 z4 z5 x5 hbm ham hc
  generalize ((w2.alloc (.map #[] 0)).alloc (.map #[] 0)).alloc (.cells #[.slice (some ⟨gf, 0, none⟩) nf cf, .slice (some ⟨ga, 0, none⟩) na ca, .int .i64 e, .int .i64 hh, .slice none 0 0, .slice none 0 0, .slice (some ⟨g, 0, none⟩) 1 cg, .map (some bm), .map (some am), .slice none 0 0] 137) = w5 at hv ⊢
  obtain ⟨l5, hb5, ha5, hc5⟩ := hv
  have H5 := Lib.hid (H.out.low (L2.out.trans (l5.mono L2.out.size))); have B5 := Lib.hid (l5.some B2.out); have A5 := Lib.hid (l5.some A2.out); have E5 := Lib.hid (cell_low E2.out l5)
  have L5 := Lib.hid (L2.out.trans (l5.mono L2.out.size))
  have HBW : Hid (w.heap.size ≤ bm ∧ w.heap.size ≤ am ∧ w.heap.size ≤ c) := Lib.hid (by have := L2.out.size; have := HB.out; have := HC3.out; omega)
  have p0 : w5.cell? ⟨g, 0, none⟩ = some (.slice Pp 1 pc) := by
    obtain ⟨cs0, r0, r1, _⟩ := H5.out.row
    exact (cell_of r0).trans r1
  have hS5 : w5.cell? ⟨t5, 0, none⟩ = some (.slice (some ⟨g, 0, none⟩) 1 cg) ∧ w5.cell? ⟨g, 0, none⟩ = some (.slice Pp 1 pc) ∧ w5.cell? ⟨t2, 1, none⟩ = some (.slice (some ⟨ga, 0, none⟩) na ca) ∧ w5.cell? ⟨ga, k, none⟩ = some (.int .i64 1) := ⟨cell_of A5.out, p0, cell_of B5.out, E5.out⟩
  have C5 := Lib.hid hc5; have M5 := Lib.hid (And.intro hb5 ha5)
  have L25 := Lib.hid l5
  clear l5 hb5 ha5 hc5 p0
  have hmp : Maps w5 [bm, am] := by
    intro b hb
    simp only [List.mem_cons, List.not_mem_nil, or_false] at hb
    rcases hb with rfl | rfl
    · exact ⟨_, _, M5.out.1⟩
    · exact ⟨_, _, M5.out.2⟩
  have MP := Lib.hid hmp
  have hco5 : (∃ o ∈ l, o.code = 26) → CallOk w5.drew c := fun hx => by
    have h1 := cell_low (cell_low (HCO.out hx) L2.out) L25.out
    exact ⟨_, _, _, _, _, _, cell_of C5.out, by omega, hnf, cell_of C5.out, by omega, hna, h1⟩
  have hsh : Calls Tryz.prog 98 #[.pointer (some ⟨c, 0, none⟩)] w5.drew (fun r w' => ∃ v, r = .returned v ∧ (v = .bool true ∧ Chs [bm, am] w5 w' ∧ Rec w' bm 0 l n ∧ Rec w' am (-1) l n)) :=
    (shapes_any w5.drew c bm am g cg #[.slice (some ⟨gf, 0, none⟩) nf cf, .slice (some ⟨ga, 0, none⟩) na ca, .int .i64 e, .int .i64 hh, .slice none 0 0, .slice none 0 0, .slice (some ⟨g, 0, none⟩) 1 cg, .map (some bm), .map (some am), .slice none 0 0] Pp pc A n cc T tc l (H5.out.low (Low.refl _ w5).drew) C5.out rfl rfl rfl hbam ⟨#[], 0, M5.out.1, ents_nil, by simp⟩ ⟨#[], 0, M5.out.2, ents_nil, by simp⟩ HN.out HRES.out hco5).mono (fun r w' ⟨a, b, c1, d⟩ => ⟨_, a, rfl, (Chs.refl _ _).drew.trans b, c1, d⟩)
  clear hmp hco5
  go_cut [43] (fun v43 wx => v43 = .bool false ∧ Chs [bm, am] w5 wx ∧ Rec wx bm 0 l n ∧ Rec wx am (-1) l n)
  case first =>
    refine wp_region_noPanic ?_
    refine wp_region_held_drew (S := fun w' => w'.cell? ⟨t5, 0, none⟩ = some (.slice (some ⟨g, 0, none⟩) 1 cg) ∧ w'.cell? ⟨g, 0, none⟩ = some (.slice Pp 1 pc) ∧ w'.cell? ⟨t2, 1, none⟩ = some (.slice (some ⟨ga, 0, none⟩) na ca) ∧ w'.cell? ⟨ga, k, none⟩ = some (.int .i64 1)) (by kernel_rfl) (by exact hS5) (fun hHeld => ?_)
    refine take_at (i := 0) (v := ?_) rfl (by kernel_rfl) (by kernel_rfl) (by kernel_rfl) (fun _ _ _ h => h) (by rfl) ?_ (by assumption) ?_
    rotate_left
    · intro w' hSw; obtain ⟨s0, s1, s2, s3⟩ := hSw; go_simp; (try with_reducible rfl)
    (try simp only [Act.put, List.setIfInBounds_toArray, List.set_cons_zero, List.set_cons_succ])
    refine take_at (i := 1) (v := ?_) rfl (by kernel_rfl) (by kernel_rfl) (by kernel_rfl) (fun _ _ _ h => h) (by rfl) ?_ (by assumption) ?_
    rotate_left
    · intro w' hSw; obtain ⟨s0, s1, s2, s3⟩ := hSw; go_simp; (try with_reducible rfl)
    (try simp only [Act.put, List.setIfInBounds_toArray, List.set_cons_zero, List.set_cons_succ])
    refine take_at (i := 2) (v := ?_) rfl (by kernel_rfl) (by kernel_rfl) (by kernel_rfl) (fun _ _ _ h => h) (by rfl) ?_ (by assumption) ?_
    rotate_left
    · intro w' hSw; obtain ⟨s0, s1, s2, s3⟩ := hSw; go_simp; (try with_reducible rfl)
    (try simp only [Act.put, List.setIfInBounds_toArray, List.set_cons_zero, List.set_cons_succ])
    refine take_at (i := 3) (v := ?_) rfl (by kernel_rfl) (by kernel_rfl) (by kernel_rfl) (fun _ _ _ h => h) (by rfl) ?_ (by assumption) ?_
    rotate_left
    · intro w' hSw; obtain ⟨s0, s1, s2, s3⟩ := hSw; go_simp; (try with_reducible rfl)
    (try simp only [Act.put, List.setIfInBounds_toArray, List.set_cons_zero, List.set_cons_succ])
    refine take_at (i := 4) (v := ?_) rfl (by kernel_rfl) (by kernel_rfl) (by kernel_rfl) (fun _ _ _ h => h) (by rfl) ?_ (by assumption) ?_
    rotate_left
    · intro w' hSw; obtain ⟨s0, s1, s2, s3⟩ := hSw; go_simp; (try with_reducible rfl)
    (try simp only [Act.put, List.setIfInBounds_toArray, List.set_cons_zero, List.set_cons_succ])
    refine take_at (i := 5) (v := ?_) rfl (by kernel_rfl) (by kernel_rfl) (by kernel_rfl) (fun _ _ _ h => h) (by rfl) ?_ (by assumption) ?_
    rotate_left
    · intro w' hSw; obtain ⟨s0, s1, s2, s3⟩ := hSw; go_simp; (try with_reducible rfl)
    (try simp only [Act.put, List.setIfInBounds_toArray, List.set_cons_zero, List.set_cons_succ])
    refine take_at (i := 6) (v := ?_) rfl (by kernel_rfl) (by kernel_rfl) (by kernel_rfl) (fun _ _ _ h => h) (by rfl) ?_ (by assumption) ?_
    rotate_left
    · intro w' hSw; obtain ⟨s0, s1, s2, s3⟩ := hSw; go_simp; (try with_reducible rfl)
    (try simp only [Act.put, List.setIfInBounds_toArray, List.set_cons_zero, List.set_cons_succ])
    refine take_at (i := 7) (v := ?_) rfl (by kernel_rfl) (by kernel_rfl) (by kernel_rfl) (fun _ _ _ h => h) (by rfl) ?_ (by assumption) ?_
    rotate_left
    · intro w' hSw; obtain ⟨s0, s1, s2, s3⟩ := hSw; go_simp; (try with_reducible rfl)
    (try simp only [Act.put, List.setIfInBounds_toArray, List.set_cons_zero, List.set_cons_succ])
    refine take_at (i := 8) (v := ?_) rfl (by kernel_rfl) (by kernel_rfl) (by kernel_rfl) (fun _ _ _ h => h) (by rfl) ?_ (by assumption) ?_
    rotate_left
    · intro w' hSw; obtain ⟨s0, s1, s2, s3⟩ := hSw; go_simp; (try with_reducible rfl)
    (try simp only [Act.put, List.setIfInBounds_toArray, List.set_cons_zero, List.set_cons_succ])
    refine take_at (i := 9) (v := ?_) rfl (by kernel_rfl) (by kernel_rfl) (by kernel_rfl) (fun _ _ _ h => h) (by rfl) ?_ (by assumption) ?_
    rotate_left
    · intro w' hSw; obtain ⟨s0, s1, s2, s3⟩ := hSw; go_simp; (try with_reducible rfl)
    (try simp only [Act.put, List.setIfInBounds_toArray, List.set_cons_zero, List.set_cons_succ])
    refine take_at (i := 10) (v := ?_) rfl (by kernel_rfl) (by kernel_rfl) (by kernel_rfl) (fun _ _ _ h => h) (by rfl) ?_ (by assumption) ?_
    rotate_left
    · intro w' hSw; obtain ⟨s0, s1, s2, s3⟩ := hSw; go_simp; (try with_reducible rfl)
    (try simp only [Act.put, List.setIfInBounds_toArray, List.set_cons_zero, List.set_cons_succ])
    refine take_at (i := 11) (v := ?_) rfl (by kernel_rfl) (by kernel_rfl) (by kernel_rfl) (fun _ _ _ h => h) (by rfl) ?_ (by assumption) ?_
    rotate_left
    · intro w' hSw; obtain ⟨s0, s1, s2, s3⟩ := hSw; go_simp; (try with_reducible rfl)
    (try simp only [Act.put, List.setIfInBounds_toArray, List.set_cons_zero, List.set_cons_succ])
    refine take_at (i := 12) (v := ?_) rfl (by kernel_rfl) (by kernel_rfl) (by kernel_rfl) (fun _ _ _ h => h) (by rfl) ?_ (by assumption) ?_
    rotate_left
    · intro w' hSw; obtain ⟨s0, s1, s2, s3⟩ := hSw; go_simp; (try with_reducible rfl)
    (try simp only [Act.put, List.setIfInBounds_toArray, List.set_cons_zero, List.set_cons_succ])
    refine take_at (i := 13) (v := ?_) rfl (by kernel_rfl) (by kernel_rfl) (by kernel_rfl) (fun _ _ _ h => h) (by rfl) ?_ (by assumption) ?_
    rotate_left
    · intro w' hSw; obtain ⟨s0, s1, s2, s3⟩ := hSw; go_simp; (try with_reducible rfl)
    (try simp only [Act.put, List.setIfInBounds_toArray, List.set_cons_zero, List.set_cons_succ])
    refine wpAnyH_ready (rs := [14]) (by kernel_rfl) (by simp) ?_
    refine next_at (i := 14) rfl (fun KK hKK => ?_) AllReadyH.nil
    refine step_call_g (by rfl) 98 #[.pointer (some ⟨c, 0, none⟩)] (by go_simp) _ hsh ?_
    rintro v w6 ⟨rfl, ls, hr1, hr2⟩
    have hS6 : w6.cell? ⟨t5, 0, none⟩ = some (.slice (some ⟨g, 0, none⟩) 1 cg) ∧ w6.cell? ⟨g, 0, none⟩ = some (.slice Pp 1 pc) ∧ w6.cell? ⟨t2, 1, none⟩ = some (.slice (some ⟨ga, 0, none⟩) na ca) ∧ w6.cell? ⟨ga, k, none⟩ = some (.int .i64 1) := ⟨cell_maps hS5.1 ls MP.out, cell_maps hS5.2.1 ls MP.out, cell_maps hS5.2.2.1 ls MP.out, cell_maps hS5.2.2.2 ls MP.out⟩
    have LS := Lib.hid ls; have R1 := Lib.hid hr1; have R2 := Lib.hid hr2
    clear ls hr1 hr2 hsh
    refine hKK.out _ _ (by exact hS6) (fun hHeld => ?_)
    clear hKK KK
    (try simp only [Act.put, List.setIfInBounds_toArray, List.set_cons_zero, List.set_cons_succ])
    refine take_at (i := 15) (v := ?_) rfl (by kernel_rfl) (by kernel_rfl) (by kernel_rfl) (fun _ _ _ h => h) (by rfl) ?_ (by assumption) ?_
    rotate_left
    · intro w' hSw; obtain ⟨s0, s1, s2, s3⟩ := hSw; go_simp; (try with_reducible rfl)
    (try simp only [Act.put, List.setIfInBounds_toArray, List.set_cons_zero, List.set_cons_succ])
    refine take_at (i := 16) (v := ?_) rfl (by kernel_rfl) (by kernel_rfl) (by kernel_rfl) (fun _ _ _ h => h) (by rfl) ?_ (by assumption) ?_
    rotate_left
    · intro w' hSw; obtain ⟨s0, s1, s2, s3⟩ := hSw; go_simp; (try with_reducible rfl)
    (try simp only [Act.put, List.setIfInBounds_toArray, List.set_cons_zero, List.set_cons_succ])
    refine wpAnyH_done (by kernel_rfl) ?_ _
    refine NoPanic.normal ?_
    (try go_wp2_with fail)
    go_meet
    exact ⟨rfl, LS.out, R1.out, R2.out⟩
  case rest =>
    clear hsh hS5
    obtain ⟨rfl, ls, hr1, hr2⟩ := hcut
    obtain ⟨w6, rfl⟩ : ∃ u, u = wc := ⟨_, rfl⟩
    have H6 := Lib.hid (H5.out.maps ls MP.out); have A6 := Lib.hid (ls.obj A5.out (MP.out.off A5.out)); have B6 := Lib.hid (ls.obj B5.out (MP.out.off B5.out)); have C6 := Lib.hid (ls.obj C5.out (MP.out.off C5.out))
    have L6 := Lib.hid (L5.out.trans (ls.low (by intro b hb; have := HBW.out; simp only [List.mem_cons, List.not_mem_nil, or_false] at hb; omega) L5.out.size))
    have R16 := Lib.hid hr1; have R26 := Lib.hid hr2
    clear ls hr1 hr2
    have hgr := graph_any w6 g cg Pp pc A n cc T tc l H6.out
    have y5 : w6.cell? ⟨t5, 0, none⟩ = some (.slice (some ⟨g, 0, none⟩) 1 cg) := cell_of A6.out
    go_upto_region 8 with (first
      | (go_at_call 99; with_reducible refine hgr.mono ?_; rintro e w7 ⟨l7, r, rfl, hr7⟩))
    have l8 : Low w7.heap.size w7 (w7.alloc (.cells #[.slice (some ⟨r, 0, none⟩) 1 1] 140)) := (Low.refl _ _).alloc (Nat.le_refl _) _
    have a8 := heap_new w7 (.cells #[.slice (some ⟨r, 0, none⟩) 1 1] 140)
    have r8 := l8.some hr7
    have l68 := Low.trans l7 (Low.mono l8 l7.size)
    obtain ⟨t7, ht7⟩ : ∃ t, t = w7.heap.size := ⟨_, rfl⟩
    rw [← ht7] at a8 ⊢
    clear ht7
    generalize w7.alloc (.cells #[.slice (some ⟨r, 0, none⟩) 1 1] 140) = w8 at a8 l8 r8 l68 ⊢
    have H8 := Lib.hid (H6.out.low l68); have A8 := Lib.hid (l68.some A6.out); have B8 := Lib.hid (l68.some B6.out); have C8 := Lib.hid (l68.some C6.out); have L8 := Lib.hid (L6.out.trans (l68.mono L6.out.size))
    have R18 := Lib.hid (R16.out.keep (l68.block _ R16.out.lt)); have R28 := Lib.hid (R26.out.keep (l68.block _ R26.out.lt))
    have T8 := Lib.hid a8; have RR8 := Lib.hid r8
    clear l7 hr7 l8 a8 r8 l68 hgr y5
    have y7 : w8.cell? ⟨t7, 0, none⟩ = some (.slice (some ⟨r, 0, none⟩) 1 1) := cell_of T8.out
    have hdm := dominators_any w8 r RR8.out
    go_upto_region 9 with (first
      | (go_at_call 100; with_reducible refine hdm.mono ?_; rintro e w9 ⟨l9, gd, rfl⟩; have x9 : w9.cell? ⟨c, 9, none⟩ = some (.slice none 0 0) := cell_of (Low.some l9 C8.out); have f9 : w9.frozen? ⟨c, 9, none⟩ = false := free_of (Low.some l9 C8.out)))
    have H9 := Lib.hid (H8.out.low l9); have A9 := Lib.hid (Low.some l9 A8.out); have B9 := Lib.hid (Low.some l9 B8.out); have C9 := Lib.hid (Low.some l9 C8.out); have L9 := Lib.hid (L8.out.trans (Low.mono l9 L8.out.size))
    have R19 := Lib.hid (R18.out.keep (Low.block l9 _ R18.out.lt)); have R29 := Lib.hid (R28.out.keep (Low.block l9 _ R28.out.lt))
    have T9 := Lib.hid (Low.some l9 T8.out); have RR9 := Lib.hid (Low.some l9 RR8.out)
    clear l9 hdm y7 x9 f9
    have A10 := Lib.hid (at_other (i := 9) (v := .slice (some ⟨gd, 0, none⟩) 1 1) A9.out C9.out (by intro cs hq; cases hq))
    have T10 := Lib.hid (at_other (i := 9) (v := .slice (some ⟨gd, 0, none⟩) 1 1) T9.out C9.out (by intro cs hq; cases hq))
    have RR10 := Lib.hid (at_other (i := 9) (v := .slice (some ⟨gd, 0, none⟩) 1 1) RR9.out C9.out (by intro cs hq; cases hq))
    have C10 := Lib.hid (set_blk (i := 9) (v := .slice (some ⟨gd, 0, none⟩) 1 1) C9.out)
    have L10 := Lib.hid (L9.out.setCell (g := c) (i := 9) HBW.out.2.2 (.slice (some ⟨gd, 0, none⟩) 1 1))
    have hch := Chs.setCell (B := [c]) w9 (d := c) (i := 9) (List.mem_singleton.2 rfl) (.slice (some ⟨gd, 0, none⟩) 1 1)
    have hoff : ∀ b ∈ [c], ∀ cs, w9.heap[b]? = some (.cells cs 29 (0, 0)) → False := by intro b hb cs hq; rw [List.mem_singleton] at hb; subst hb; rw [C9.out] at hq; cases hq
    have H10 := Lib.hid (H9.out.chs1 hch C9.out)
    have R110 := Lib.hid (R19.out.keep (hch.block _ R19.out.lt (by intro hm; rw [List.mem_singleton] at hm; obtain ⟨es, cl, h1⟩ := R19.out.isMap; subst hm; rw [C9.out] at h1; cases h1)))
    have R210 := Lib.hid (R29.out.keep (hch.block _ R29.out.lt (by intro hm; rw [List.mem_singleton] at hm; obtain ⟨es, cl, h1⟩ := R29.out.isMap; subst hm; rw [C9.out] at h1; cases h1)))
    clear hoff
    clear hch
    generalize w9.setCell ⟨c, 9, none⟩ (.slice (some ⟨gd, 0, none⟩) 1 1) = w10 at A10 T10 RR10 C10 L10 H10 R110 R210 ⊢
    have hS10 : w10.cell? ⟨t7, 0, none⟩ = some (.slice (some ⟨r, 0, none⟩) 1 1) ∧ w10.cell? ⟨t5, 0, none⟩ = some (.slice (some ⟨g, 0, none⟩) 1 cg) := ⟨cell_of T10.out, cell_of A10.out⟩
    have hor : Calls Tryz.prog 101 #[.agg #[.slice (some ⟨r, 0, none⟩) 1 1]] w10.drew (fun e w' => ∃ v, e = .returned v ∧ (Low w10.heap.size w10 w' ∧ ∃ gp c, v = .slice (some ⟨gp, 0, none⟩) 1 c)) :=
      (order_any w10.drew r RR10.out).mono (fun e w' ⟨a, gp, c, cs, he, _⟩ => ⟨_, he, (Low.refl _ w10).drew.trans a, gp, c, rfl⟩)
    go_cut [57] (fun v57 wx => v57 = .bool false ∧ Low w10.heap.size w10 wx)
    case first =>
      refine wp_region_noPanic ?_
      refine wp_region_held_drew (S := fun w' => w'.cell? ⟨t7, 0, none⟩ = some (.slice (some ⟨r, 0, none⟩) 1 1) ∧ w'.cell? ⟨t5, 0, none⟩ = some (.slice (some ⟨g, 0, none⟩) 1 cg)) (by kernel_rfl) (by exact hS10) (fun hHeld => ?_)
      refine take_at (i := 0) (v := ?_) rfl (by kernel_rfl) (by kernel_rfl) (by kernel_rfl) (fun _ _ _ h => h) (by rfl) ?_ (by assumption) ?_
      rotate_left
      · intro w' hSw; obtain ⟨s0, s1⟩ := hSw; go_simp; (try with_reducible rfl)
      (try simp only [Act.put, List.setIfInBounds_toArray, List.set_cons_zero, List.set_cons_succ])
      refine take_at (i := 3) (v := ?_) rfl (by kernel_rfl) (by kernel_rfl) (by kernel_rfl) (fun _ _ _ h => h) (by rfl) ?_ (by assumption) ?_
      rotate_left
      · intro w' hSw; obtain ⟨s0, s1⟩ := hSw; go_simp; (try with_reducible rfl)
      (try simp only [Act.put, List.setIfInBounds_toArray, List.set_cons_zero, List.set_cons_succ])
      refine take_at (i := 4) (v := ?_) rfl (by kernel_rfl) (by kernel_rfl) (by kernel_rfl) (fun _ _ _ h => h) (by rfl) ?_ (by assumption) ?_
      rotate_left
      · intro w' hSw; obtain ⟨s0, s1⟩ := hSw; go_simp; (try with_reducible rfl)
      (try simp only [Act.put, List.setIfInBounds_toArray, List.set_cons_zero, List.set_cons_succ])
      refine take_at (i := 5) (v := ?_) rfl (by kernel_rfl) (by kernel_rfl) (by kernel_rfl) (fun _ _ _ h => h) (by rfl) ?_ (by assumption) ?_
      rotate_left
      · intro w' hSw; obtain ⟨s0, s1⟩ := hSw; go_simp; (try with_reducible rfl)
      (try simp only [Act.put, List.setIfInBounds_toArray, List.set_cons_zero, List.set_cons_succ])
      refine wpAnyH_ready (rs := [1]) (by kernel_rfl) (by simp) ?_
      refine next_at (i := 1) rfl (fun KK hKK => ?_) AllReadyH.nil
      refine step_call rfl 101 #[.agg #[.slice (some ⟨r, 0, none⟩) 1 1]] (by go_simp) _ hor ?_
      rintro v w11 ⟨l11, gp, c', rfl⟩
      have hS11 : w11.cell? ⟨t7, 0, none⟩ = some (.slice (some ⟨r, 0, none⟩) 1 1) ∧ w11.cell? ⟨t5, 0, none⟩ = some (.slice (some ⟨g, 0, none⟩) 1 cg) := ⟨cell_low hS10.1 l11, cell_low hS10.2 l11⟩
      have L11 := Lib.hid l11
      clear l11 hor
      refine hKK.out _ _ (by exact hS11) (fun hHeld => ?_)
      clear hKK KK
      (try simp only [Act.put, List.setIfInBounds_toArray, List.set_cons_zero, List.set_cons_succ])
      refine take_at (i := 2) (v := ?_) rfl (by kernel_rfl) (by kernel_rfl) (by kernel_rfl) (fun _ _ _ h => h) (by rfl) ?_ (by assumption) ?_
      rotate_left
      · intro w' hSw; obtain ⟨s0, s1⟩ := hSw; go_simp; (try with_reducible rfl)
      (try simp only [Act.put, List.setIfInBounds_toArray, List.set_cons_zero, List.set_cons_succ])
      refine take_at (i := 6) (v := ?_) rfl (by kernel_rfl) (by kernel_rfl) (by kernel_rfl) (fun _ _ _ h => h) (by rfl) ?_ (by assumption) ?_
      rotate_left
      · intro w' hSw; obtain ⟨s0, s1⟩ := hSw; go_simp; (try with_reducible rfl)
      (try simp only [Act.put, List.setIfInBounds_toArray, List.set_cons_zero, List.set_cons_succ])
      refine wpAnyH_done (by kernel_rfl) ?_ _
      refine NoPanic.normal ?_
      (try go_wp2_with fail)
      go_meet
      exact ⟨rfl, L11.out⟩
    case rest =>
      clear hor hS10
      obtain ⟨rfl, l11⟩ := hcut
      obtain ⟨w11, rfl⟩ : ∃ u, u = wc := ⟨_, rfl⟩
      have H11 := Lib.hid (H10.out.low l11); have A11 := Lib.hid (l11.some A10.out); have C11 := Lib.hid (l11.some C10.out); have L11 := Lib.hid (L10.out.trans (l11.mono L10.out.size))
      have R111 := Lib.hid (R110.out.keep (l11.block _ R110.out.lt)); have R211 := Lib.hid (R210.out.keep (l11.block _ R210.out.lt))
      clear l11
      have y5 : w11.cell? ⟨t5, 0, none⟩ = some (.slice (some ⟨g, 0, none⟩) 1 cg) := cell_of A11.out
      go_wp2_with fail
      go_loopw [61] (fun i wr => (i = .int .i64 0 ∧ wr = w11) ∨ (i = .int .i64 1 ∧ Low w11.heap.size w11 wr)) (fun i _ => 1 - (intOf i).toNat)
      case atStart => exact .inl ⟨rfl, rfl⟩
      case round =>
        rcases hrel with ⟨rfl, rfl⟩ | ⟨rfl, hL⟩
        · obtain ⟨w11, rfl⟩ : ∃ u, u = wr := ⟨_, rfl⟩
          obtain ⟨cs0, r0, r1, r2, r3, r4, r5⟩ := H11.out.row
          have p0 : w11.cell? ⟨g, 0, none⟩ = some (.slice Pp 1 pc) := (cell_of r0).trans r1
          have p1 : w11.cell? ⟨g, 1, none⟩ = some (.slice A n cc) := (cell_of r0).trans r2
          have p2 : w11.cell? ⟨g, 2, none⟩ = some (.int .i64 4) := (cell_of r0).trans r3
          have p3 : w11.cell? ⟨g, 3, none⟩ = some (.int .i64 (-1)) := (cell_of r0).trans r4
          have p4 : w11.cell? ⟨g, 4, none⟩ = some (.slice T 0 tc) := (cell_of r0).trans r5
          clear r0 r1 r2 r3 r4 r5
          have l12 : Low w11.heap.size w11 (w11.alloc (.cells #[.slice Pp 1 pc, .slice A n cc, .int .i64 4, .int .i64 (-1), .slice T 0 tc] 29)) := (Low.refl _ _).alloc (Nat.le_refl _) _
          have a12 := heap_new w11 (.cells #[.slice Pp 1 pc, .slice A n cc, .int .i64 4, .int .i64 (-1), .slice T 0 tc] 29)
          have L12 := Lib.hid l12
          go_upto_region 14 with fail
          clear p0 p1 p2 p3 p4 y5
          obtain ⟨t9, ht9⟩ : ∃ t, t = w11.heap.size := ⟨_, rfl⟩
          rw [← ht9] at a12 ⊢
          clear ht9
          generalize w11.alloc (.cells #[.slice Pp 1 pc, .slice A n cc, .int .i64 4, .int .i64 (-1), .slice T 0 tc] 29) = w12 at a12 L12 l12 ⊢
          have N12 := Lib.hid a12
          have y1 : w12.cell? ⟨t9, 1, none⟩ = some (.slice A n cc) := cell_of a12
          have H12 := Lib.hid (H11.out.low l12); have C12 := Lib.hid (l12.some C11.out); have R112 := Lib.hid (R111.out.keep (l12.block _ R111.out.lt)); have R212 := Lib.hid (R211.out.keep (l12.block _ R211.out.lt))
          have hn12 : n ≤ 12 := H.out.small
          clear l12 a12
          go_wp2_with fail
          go_loopw [69] (fun i wr => ∃ q : Nat, i = .int .i64 q ∧ q ≤ n ∧ Low w12.heap.size w12 wr) (fun i _ => n - (intOf i).toNat)
          case atStart => exact ⟨0, rfl, by omega, Low.refl _ _⟩
          case round =>
            obtain ⟨wv, rfl⟩ : ∃ u, u = wr := ⟨_, rfl⟩
            obtain ⟨q, rfl, hq, hl⟩ := hrel
            by_cases hlt : q < n
            · have hlt' : (q : Int) < (n : Int) := by omega
              have hq0 : (0 : Int) ≤ (q : Int) := by omega
              have hqn : (q : Int) ≤ 12 := by omega
              have hv := H12.out.low hl
              obtain ⟨o, ho⟩ : ∃ o, l[q]? = some o := ⟨_, List.getElem?_eq_getElem (by have := hv.ops.1; omega)⟩
              obtain ⟨ga', cs1, rfl, hnc, hg, k0, k1, k2, k3, k4, k5⟩ := hv.ops.2 q o ho
              have c0 : wv.cell? ⟨ga', q * 6, none⟩ = some (.int .i64 o.code) := (cell_of hg).trans k0
              have c1 : wv.cell? ⟨ga', q * 6 + 1, none⟩ = some (.int .i64 o.res) := (cell_of hg).trans k1
              have c2 : wv.cell? ⟨ga', q * 6 + 2, none⟩ = some (.int .i64 0) := (cell_of hg).trans k2
              have c3 : wv.cell? ⟨ga', q * 6 + 3, none⟩ = some (.int .i64 0) := (cell_of hg).trans k3
              have c4 : wv.cell? ⟨ga', q * 6 + 4, none⟩ = some (.int .u16 o.n) := (cell_of hg).trans k4
              have c5 : wv.cell? ⟨ga', q * 6 + 5, none⟩ = some (.slice none 0 0) := (cell_of hg).trans k5
              have hok := (hv.ok o (List.mem_of_getElem? ho)).1
              have l13 : Low wv.heap.size wv (wv.alloc (.cells #[.int .i64 o.code, .int .i64 o.res, .int .i64 0, .int .i64 0, .int .u16 o.n, .slice none 0 0] 33)) := (Low.refl _ _).alloc (Nat.le_refl _) _
              have a13 := heap_new wv (.cells #[.int .i64 o.code, .int .i64 o.res, .int .i64 0, .int .i64 0, .int .u16 o.n, .slice none 0 0] 33)
              have lv := hl.trans (l13.mono hl.size)
              have LV := Lib.hid lv; have C13 := Lib.hid (lv.some C12.out); have R113 := Lib.hid (R112.out.keep (lv.block _ R112.out.lt)); have R213 := Lib.hid (R212.out.keep (lv.block _ R212.out.lt))
              have hu := uses_any (wv.alloc (.cells #[.int .i64 o.code, .int .i64 o.res, .int .i64 0, .int .i64 0, .int .u16 o.n, .slice none 0 0] 33)) o hok
              clear hv hg k0 k1 k2 k3 k4 k5 ho hok hl l13 lv
              go_upto_region 17 with fail
              clear c0 c1 c2 c3 c4 c5 y1
              obtain ⟨t11, ht11⟩ : ∃ t, t = wv.heap.size := ⟨_, rfl⟩
              rw [← ht11] at a13 ⊢
              clear ht11
              generalize wv.alloc (.cells #[.int .i64 o.code, .int .i64 o.res, .int .i64 0, .int .i64 0, .int .u16 o.n, .slice none 0 0] 33) = wa at a13 hu LV C13 R113 R213 ⊢
              have x0 : wa.cell? ⟨t11, 0, none⟩ = some (.int .i64 o.code) := cell_of a13
              have x1 : wa.cell? ⟨t11, 1, none⟩ = some (.int .i64 o.res) := cell_of a13
              have x2 : wa.cell? ⟨t11, 2, none⟩ = some (.int .i64 0) := cell_of a13
              have x3 : wa.cell? ⟨t11, 3, none⟩ = some (.int .i64 0) := cell_of a13
              have x4 : wa.cell? ⟨t11, 4, none⟩ = some (.int .u16 o.n) := cell_of a13
              have x5 : wa.cell? ⟨t11, 5, none⟩ = some (.slice none 0 0) := cell_of a13
              clear a13
              go_wp2_with (first
                | (go_at_call 103; with_reducible refine hu.mono ?_; rintro e wb ⟨lb, v, rfl, hz⟩; have LB := Lib.hid lb; have hcb := Low.some lb C13.out; obtain ⟨m1, hm1, hz1⟩ := (R113.out.keep (Low.block lb _ R113.out.lt)).zero; obtain ⟨m2, hm2, hz2⟩ := (R213.out.keep (Low.block lb _ R213.out.lt)).zero; have hdef := defined_any wb c bm am m1 m2 v q (cell_of hcb) (cell_of hcb) hm1 hm2 hz1 hz2 hq0 hz; clear lb hcb hm1 hm2 hz1 hz2 hz x0 x1 x2 x3 x4 x5)
                | (go_at_call 102; with_reducible refine hdef.mono ?_; rintro e wd ⟨rfl, rfl⟩))
              exact ⟨⟨q + 1, rfl, hlt, LV.out.trans (LB.out.mono LV.out.size)⟩, by show n - ((q : Int) + 1).toNat < n - ((q : Int)).toNat; omega⟩
            · have hlt' : ¬ (q : Int) < (n : Int) := by omega
              obtain rfl : q = n := by omega
              have LV := Lib.hid hl
              have hav := hl.some N12.out
              clear hl
              have hS20 : wv.cell? ⟨t9, 1, none⟩ = some (.slice A q cc) ∧ wv.cell? ⟨t9, 2, none⟩ = some (.int .i64 4) ∧ wv.cell? ⟨t9, 3, none⟩ = some (.int .i64 (-1)) ∧ wv.cell? ⟨t9, 4, none⟩ = some (.slice T 0 tc) := ⟨cell_of hav, cell_of hav, cell_of hav, cell_of hav⟩
              have hen : Calls Tryz.prog 104 #[.agg #[.int .i64 4, .int .i64 (-1), .slice T 0 tc]] wv.drew (fun e w' => ∃ v, e = .returned v ∧ (v = .slice none 0 0 ∧ Low wv.heap.size wv w')) :=
                (ends_any wv.drew 4 (-1) T tc (.inl ⟨rfl, rfl⟩)).mono (fun e w' ⟨a, b⟩ => ⟨_, b, rfl, (Low.refl _ wv).drew.trans a⟩)
              clear hav y1
              go_upto_region 20 with fail
              go_cut [91] (fun v91 wx => v91 = .bool false ∧ Low wv.heap.size wv wx)
              case first =>
                refine wp_region_noPanic ?_
                refine wp_region_held_drew (S := fun w' => w'.cell? ⟨t9, 1, none⟩ = some (.slice A q cc) ∧ w'.cell? ⟨t9, 2, none⟩ = some (.int .i64 4) ∧ w'.cell? ⟨t9, 3, none⟩ = some (.int .i64 (-1)) ∧ w'.cell? ⟨t9, 4, none⟩ = some (.slice T 0 tc)) (by kernel_rfl) (by exact hS20) (fun hHeld => ?_)
                refine take_at (i := 0) (v := ?_) rfl (by kernel_rfl) (by kernel_rfl) (by kernel_rfl) (fun _ _ _ h => h) (by rfl) ?_ (by assumption) ?_
                rotate_left
                · intro w' hSw; obtain ⟨s0, s1, s2, s3⟩ := hSw; go_simp; (try with_reducible rfl)
                (try simp only [Act.put, List.setIfInBounds_toArray, List.set_cons_zero, List.set_cons_succ])
                refine take_at (i := 1) (v := ?_) rfl (by kernel_rfl) (by kernel_rfl) (by kernel_rfl) (fun _ _ _ h => h) (by rfl) ?_ (by assumption) ?_
                rotate_left
                · intro w' hSw; obtain ⟨s0, s1, s2, s3⟩ := hSw; go_simp; (try with_reducible rfl)
                (try simp only [Act.put, List.setIfInBounds_toArray, List.set_cons_zero, List.set_cons_succ])
                refine take_at (i := 2) (v := ?_) rfl (by kernel_rfl) (by kernel_rfl) (by kernel_rfl) (fun _ _ _ h => h) (by rfl) ?_ (by assumption) ?_
                rotate_left
                · intro w' hSw; obtain ⟨s0, s1, s2, s3⟩ := hSw; go_simp; (try with_reducible rfl)
                (try simp only [Act.put, List.setIfInBounds_toArray, List.set_cons_zero, List.set_cons_succ])
                refine take_at (i := 4) (v := ?_) rfl (by kernel_rfl) (by kernel_rfl) (by kernel_rfl) (fun _ _ _ h => h) (by rfl) ?_ (by assumption) ?_
                rotate_left
                · intro w' hSw; obtain ⟨s0, s1, s2, s3⟩ := hSw; go_simp; (try with_reducible rfl)
                (try simp only [Act.put, List.setIfInBounds_toArray, List.set_cons_zero, List.set_cons_succ])
                refine take_at (i := 5) (v := ?_) rfl (by kernel_rfl) (by kernel_rfl) (by kernel_rfl) (fun _ _ _ h => h) (by rfl) ?_ (by assumption) ?_
                rotate_left
                · intro w' hSw; obtain ⟨s0, s1, s2, s3⟩ := hSw; go_simp; (try with_reducible rfl)
                (try simp only [Act.put, List.setIfInBounds_toArray, List.set_cons_zero, List.set_cons_succ])
                refine take_at (i := 6) (v := ?_) rfl (by kernel_rfl) (by kernel_rfl) (by kernel_rfl) (fun _ _ _ h => h) (by rfl) ?_ (by assumption) ?_
                rotate_left
                · intro w' hSw; obtain ⟨s0, s1, s2, s3⟩ := hSw; go_simp; (try with_reducible rfl)
                (try simp only [Act.put, List.setIfInBounds_toArray, List.set_cons_zero, List.set_cons_succ])
                refine take_at (i := 7) (v := ?_) rfl (by kernel_rfl) (by kernel_rfl) (by kernel_rfl) (fun _ _ _ h => h) (by rfl) ?_ (by assumption) ?_
                rotate_left
                · intro w' hSw; obtain ⟨s0, s1, s2, s3⟩ := hSw; go_simp; (try with_reducible rfl)
                (try simp only [Act.put, List.setIfInBounds_toArray, List.set_cons_zero, List.set_cons_succ])
                refine wpAnyH_ready (rs := [3]) (by kernel_rfl) (by simp) ?_
                refine next_at (i := 3) rfl (fun KK hKK => ?_) AllReadyH.nil
                refine step_call rfl 104 #[.agg #[.int .i64 4, .int .i64 (-1), .slice T 0 tc]] (by go_simp) _ hen ?_
                rintro v wq ⟨rfl, lq⟩
                have hSq : wq.cell? ⟨t9, 1, none⟩ = some (.slice A q cc) ∧ wq.cell? ⟨t9, 2, none⟩ = some (.int .i64 4) ∧ wq.cell? ⟨t9, 3, none⟩ = some (.int .i64 (-1)) ∧ wq.cell? ⟨t9, 4, none⟩ = some (.slice T 0 tc) := ⟨cell_low hS20.1 lq, cell_low hS20.2.1 lq, cell_low hS20.2.2.1 lq, cell_low hS20.2.2.2 lq⟩
                have LQ := Lib.hid lq
                have hdn : Calls Tryz.prog 102 #[.pointer (some ⟨c, 0, none⟩), .slice none 0 0, .int .i64 0, .int .i64 q] wq (fun e w' => ∃ v, e = .returned v ∧ (v = .bool true ∧ w' = wq)) :=
                  (defined_nil wq (.pointer (some ⟨c, 0, none⟩)) 0 q).mono (fun e w' ⟨a, b⟩ => ⟨_, a, rfl, b⟩)
                clear lq hen
                refine hKK.out _ _ (by exact hSq) (fun hHeld => ?_)
                clear hKK KK
                (try simp only [Act.put, List.setIfInBounds_toArray, List.set_cons_zero, List.set_cons_succ])
                refine wpAnyH_ready (rs := [8]) (by kernel_rfl) (by simp) ?_
                refine next_at (i := 8) rfl (fun KK hKK => ?_) AllReadyH.nil
                refine step_call rfl 102 #[.pointer (some ⟨c, 0, none⟩), .slice none 0 0, .int .i64 0, .int .i64 q] (by go_simp) _ hdn ?_
                rintro v wz ⟨rfl, rfl⟩
                clear hdn
                refine hKK.out _ _ (by exact hSq) (fun hHeld => ?_)
                clear hKK KK
                (try simp only [Act.put, List.setIfInBounds_toArray, List.set_cons_zero, List.set_cons_succ])
                refine take_at (i := 9) (v := ?_) rfl (by kernel_rfl) (by kernel_rfl) (by kernel_rfl) (fun _ _ _ h => h) (by rfl) ?_ (by assumption) ?_
                rotate_left
                · intro w' hSw; obtain ⟨s0, s1, s2, s3⟩ := hSw; go_simp; (try with_reducible rfl)
                (try simp only [Act.put, List.setIfInBounds_toArray, List.set_cons_zero, List.set_cons_succ])
                refine wpAnyH_done (by kernel_rfl) ?_ _
                refine NoPanic.normal ?_
                (try go_wp2_with fail)
                go_meet
                exact ⟨rfl, LQ.out⟩
              case rest =>
                clear hen hS20
                obtain ⟨rfl, l20⟩ := hcut
                obtain ⟨wz, rfl⟩ : ∃ u, u = wc := ⟨_, rfl⟩
                have HF := Lib.hid (L12.out.trans ((LV.out.trans (l20.mono LV.out.size)).mono L12.out.size))
                clear l20
                go_wp2_with fail
                exact ⟨.inr ⟨rfl, HF.out⟩, by decide⟩
        · have HF := Lib.hid (L11.out.trans (hL.mono L11.out.size))
          clear hL
          go_wp2_with fail
          go_ret
          exact ⟨HF.out, rfl⟩
end Go.Proofs.YtnjdegjpmbdboaaGreat
