/- The graph's function, and what it is. -/
import Derived.Test.YtnjdegjpmbdboaaGreatQR
namespace Go.Proofs.YtnjdegjpmbdboaaGreat
open Go.RowKit
set_option linter.unusedVariables false
/-- One parameter: value 0. -/
def ParAt (w : World) (Pp : Option Addr) (pc : Nat) : Prop := ∃ g cs, Pp = some ⟨g, 0, none⟩ ∧ 1 ≤ pc ∧ w.heap[g]? = some (.cells cs 3 (0, 0)) ∧ cs[0]? = some (.int .i64 0)
theorem ParAt.low {w w' : World} {Pp : Option Addr} {pc : Nat} (h : ParAt w Pp pc) (hl : Low w.heap.size w w') : ParAt w' Pp pc := by
  obtain ⟨g, cs, e, hc, hg, h0⟩ := h
  exact ⟨g, cs, e, hc, hl.some hg, h0⟩
theorem ParAt.chs {w w' : World} {Pp : Option Addr} {pc : Nat} {B : List Nat} (h : ParAt w Pp pc) (hc : Chs B w w') (hB : ∀ b ∈ B, ∀ cs, w.heap[b]? ≠ some (.cells cs 3 (0, 0))) : ParAt w' Pp pc := by
  obtain ⟨g, cs, e, hpc, hg, h0⟩ := h
  exact ⟨g, cs, e, hpc, hc.obj hg (fun hm => hB g hm cs hg), h0⟩
/-- A function of one block, of the statement's kind. -/
structure FnAt (w : World) (g : Nat) (Pp : Option Addr) (pc : Nat) (A : Option Addr) (n c : Nat) (T : Option Addr) (tc : Nat) (l : List Opn) : Prop where
  row : ∃ cs, w.heap[g]? = some (.cells cs 29 (0, 0)) ∧ cs[0]? = some (.slice Pp 1 pc) ∧ cs[1]? = some (.slice A n c) ∧ cs[2]? = some (.int .i64 4) ∧ cs[3]? = some (.int .i64 (-1)) ∧ cs[4]? = some (.slice T 0 tc)
  ops : OpsAt w A n c l
  par : ParAt w Pp pc
  ok : ∀ o ∈ l, OkOp o
  small : n ≤ 12
  inc : Inc l
theorem FnAt.low {w w' : World} {g : Nat} {Pp : Option Addr} {pc : Nat} {A : Option Addr} {n c : Nat} {T : Option Addr} {tc : Nat} {l : List Opn} (h : FnAt w g Pp pc A n c T tc l) (hl : Low w.heap.size w w') : FnAt w' g Pp pc A n c T tc l := by
  obtain ⟨cs, hg, r⟩ := h.row
  exact ⟨⟨cs, hl.some hg, r⟩, h.ops.low hl, h.par.low hl, h.ok, h.small, h.inc⟩
theorem ap37 : Ap Tryz.prog 37 29 5 88 := ⟨Tryz.underlying37, by
  obtain ⟨ti, hti, hz, hs, hb⟩ := info_of (show (Tryz.prog.info? 29).map (fun i => (i.zero, i.size, i.bytes)) = some (some (.agg #[.slice none 0 0, .slice none 0 0, .int .i64 0, .int .i64 0, .slice none 0 0]), 5, 88) by kernel_rfl)
  exact ⟨ti, _, hti, hz, hs, hb, rfl⟩, by decide, by decide⟩
/-- Three blocks are made. -/
theorem three_allocs {w : World} {S : Nat} (o1 o2 o3 : Obj) (hS : w.heap.size = S) : ((w.alloc o1).alloc o2).alloc o3 = ((w.alloc o1).alloc o2).alloc o3 ∧ (((w.alloc o1).alloc o2).alloc o3).heap[S]? = some o1 ∧ (((w.alloc o1).alloc o2).alloc o3).heap[S + 1]? = some o2 ∧ (((w.alloc o1).alloc o2).alloc o3).heap[S + 1 + 1]? = some o3 ∧ Low w.heap.size w (((w.alloc o1).alloc o2).alloc o3) := by
  obtain ⟨a1, s1, u1⟩ := alloc_at o1 hS
  obtain ⟨a2, s2, u2⟩ := alloc_at o2 s1
  obtain ⟨a3, s3, u3⟩ := alloc_at o3 s2
  exact ⟨rfl, u3 _ _ (u2 _ _ a1), u3 _ _ a2, a3, (((Low.refl _ w).alloc (Nat.le_refl _) _).alloc (by omega) _).alloc (by omega) _⟩
theorem step_app_row {ops : Array Oper} {o : Oper} {a : Act} {w : World} {KK : Act → World → Prop} {Q : Exit → Act → World → Prop} {E : Prop} (hgd : o.guard = none) (s x : Operand) (ho : o.op = .call { callee := .builtin .append, args := #[s, x], argTypes := #[27, 27] })
    {A : Option Addr} {n c : Nat} {l : List Opn} (hs : a.eval s = .slice none 0 0) (hx : a.eval x = .slice A n c) (h : OpsAt w A n c l) (hn : n ≤ 12)
    (hK : ∀ A' c' w', Low w.heap.size w w' → OpsAt w' A' n c' l → KK (a.put o.dst (.slice A' n c')) w') : if Region.wanted o (yielded ops a.tmps) = true then Oper.wp Tryz.prog o a w KK Q else E := by
  have hw : Region.wanted o (yielded ops a.tmps) = true := by simp [Region.wanted, hgd]
  rw [if_pos hw]
  obtain ⟨A', c', w', hrun, hl, ho'⟩ := append_row w A n c l h hn o.type
  unfold Oper.wp execOp
  simp only [ho, resolve, invoke, builtin, Sem.run_bind, Sem.run_pure, Result.andThen_ok, List.map_toArray, List.map_cons, List.map_nil, hs, hx, hrun]
  exact hK A' c' w' hl ho'
set_option maxRecDepth 100000 in
set_option maxHeartbeats 8000000 in
theorem function_any (w : World) (gr bk al df nm ob cm om : Nat) (next : Int) (Pp : Option Addr) (pc : Nat) (A : Option Addr) (n c : Nat) (T : Option Addr) (tc : Nat) (l : List Opn) (h : Gr w gr bk al df nm ob cm om next Pp pc A n c T tc l) (hp : ParAt w Pp pc) :
    Calls Tryz.prog 21 #[.pointer (some ⟨gr, 0, none⟩)] w (fun e w' => Chs [bk] w w' ∧ ∃ g cr A' c' T' tc', e = .returned (.agg #[.slice (some ⟨g, 0, none⟩) 1 cr]) ∧ 1 ≤ cr ∧ FnAt w' g Pp pc A' n c' T' tc' l) := by
  have hmf : ∀ (fn : Fn) (first cap : Array Value) (w : World), (Instr.makeFunc fn first cap).run Tryz.prog w = .ok (.func fn first cap) w := fun _ _ _ _ => rfl
  have hmm : ∀ u : World, (Instr.makeMap 102 none).run Tryz.prog u = .ok (.map (some u.heap.size)) (u.alloc (.map #[] 0)) := fun u => by kernel_rfl
  have hmk : ∀ u : World, (Instr.makeMap 94 none).run Tryz.prog u = .ok (.map (some u.heap.size)) (u.alloc (.map #[] 0)) := fun u => by kernel_rfl
  have l1 : Low w.heap.size w (w.alloc (.cells #[.slice none 0 0] 39)) := (Low.refl _ _).alloc (Nat.le_refl _) _
  have a1 := heap_new w (.cells #[.slice none 0 0] 39)
  have G1 := h.low l1
  have P1 := hp.low l1
  have hn12 : n ≤ 12 := h.small
  clear h hp
  go_enter Tryz.func21, Tryz.ntmps21
  go_upto_region 1 with fail
  obtain ⟨z2, hz2⟩ : ∃ z2, z2 = w.heap.size := ⟨_, rfl⟩
  have HZ2 := Lib.hid hz2
  rw [← hz2] at a1 ⊢
  clear hz2
  generalize w.alloc (.cells #[.slice none 0 0] 39) = w1 at l1 a1 G1 P1 ⊢
  have hres := resolve_any w1 gr bk al df nm ob cm om next Pp pc A n c T tc l G1
  go_upto_region 2 with (first
    | (go_at_call 37; refine hres.mono ?_; rintro e w2 ⟨rfl, ch2, T', tc', g2⟩))
  have c2 : Chs [bk] w w2 := (Chs.of_low l1).trans (Chs.of_ch ch2 (by simp))
  have a2 := ch2.obj a1 (by
    rintro rfl
    have := G1.b
    rw [a1] at this; cases this)
  have p2 := P1.chs (Chs.of_ch (B := [bk]) ch2 (by simp)) (by
    intro b hb cs
    rw [List.mem_singleton] at hb
    subst hb
    rw [G1.b]; intro h; cases h)
  have G2 := Lib.hid g2; have C2 := Lib.hid c2; have A2 := Lib.hid a2; have P2 := Lib.hid p2
  clear l1 a1 G1 P1 hres ch2 g2 c2 a2 p2
  have hbl := blocks_any w2 gr bk tc' T' (cell_of G2.out.g) (cell_of G2.out.b)
  go_upto_region 3 with (first
    | (go_at_call 38; refine hbl.mono ?_; rintro e w3 ⟨l3, r, cr, rfl, x3, hr3, hcr⟩))
  have e4 : Empty (w3.alloc (.map #[] 0)) w3.heap.size := ⟨0, heap_new w3 _⟩
  have l4 : Low w3.heap.size w3 (w3.alloc (.map #[] 0)) := (Low.refl _ w3).alloc (Nat.le_refl _) _
  have G3 := Lib.hid (G2.out.low l3); have C3 := Lib.hid (C2.out.tail (l3.mono C2.out.size)); have A3 := Lib.hid (l3.some A2.out); have P3 := Lib.hid (P2.out.low l3)
  have x4 : (w3.alloc (.map #[] 0)).cell? ⟨r, 0, none⟩ = some (.pointer (some ⟨bk, 0, none⟩)) := (World.cell?_of_block (a := ⟨r, 0, none⟩) (l4.block r (cell_lt x3))).trans x3
  obtain ⟨es, cl, hup⟩ := update_empty (P := Tryz.prog) (t := 102) Tryz.underlying102 plain72 e4 (.pointer (some ⟨bk, 0, none⟩)) (.int .i64 0)
  have L4 := Lib.hid l4
  have L4' := Lib.hid (l4.setBlock (Nat.le_refl _) (.map es cl))
  have X3 := Lib.hid x3
  clear hbl G2 C2 A2 P2 l3 l4 e4 x3
  go_upto_region 4 with fail
  go_wp2_with fail
  go_loopw [29] (fun i wr => (i = .int .i64 0 ∧ wr = w3.alloc (.map #[] 0)) ∨ (i = .int .i64 1 ∧ Low w3.heap.size w3 wr)) (fun i _ => 1 - (intOf i).toNat)
  case atStart => exact .inl ⟨rfl, rfl⟩
  case round =>
    rcases hrel with ⟨rfl, rfl⟩ | ⟨rfl, l5⟩
    · go_wp2_with fail
      exact ⟨.inr ⟨rfl, L4'.out⟩, by decide⟩
    · obtain ⟨w4, rfl⟩ : ∃ u, u = wr := ⟨_, rfl⟩
      clear hup x4 L4 L4'
      have l5s := l5.size
      obtain ⟨S, hS⟩ : ∃ S, w4.heap.size = S := ⟨_, rfl⟩
      obtain ⟨_, t1, t2, t3, l6⟩ := three_allocs (.map #[] 0) (.cells #[.map (some S)] 94) (.cells #[.slice none 0 0] 39) hS
      have l36 := l5.trans (l6.mono l5.size)
      have G6 := Lib.hid (G3.out.low l36)
      have U6 := Lib.hid (show Used (S + 1) S (((w4.alloc (.map #[] 0)).alloc (.cells #[.map (some S)] 94)).alloc (.cells #[.slice none 0 0] 39)) from ⟨⟨[], #[], 0, t1, ents_nil⟩, t2⟩)
      have T6 := Lib.hid t3
      have x6 := (World.cell?_of_block (a := ⟨r, 0, none⟩) (l36.block r (cell_lt X3.out))).trans X3.out
      have HS3 := Lib.hid (show w3.heap.size ≤ S by omega)
      have L6 := Lib.hid l36
      clear l5 l6 l36 t1 t2 t3 X3 l5s
      go_upto_region 12 with fail
      clear hS
      generalize ((w4.alloc (.map #[] 0)).alloc (.cells #[.map (some S)] 94)).alloc (.cells #[.slice none 0 0] 39) = w6 at G6 L6 U6 T6 x6 ⊢
      obtain ⟨t7, ht7⟩ : ∃ t, t = S + 1 := ⟨_, rfl⟩
      obtain ⟨t9, ht9⟩ : ∃ t, t = S + 1 + 1 := ⟨_, rfl⟩
      rw [← ht9, ← ht7]
      have HT := Lib.hid (And.intro ht7 ht9)
      rw [← ht7] at U6; rw [← ht9] at T6
      clear ht7 ht9
      have b6 : w6.cell? ⟨bk, 1, none⟩ = some (.slice A n c) := cell_of G6.out.b
      have hSA : w6.cell? ⟨bk, 0, none⟩ = some (.slice Pp 1 pc) ∧ w6.cell? ⟨bk, 1, none⟩ = some (.slice A n c) ∧ w6.cell? ⟨bk, 2, none⟩ = some (.int .i64 4) ∧ w6.cell? ⟨bk, 3, none⟩ = some (.int .i64 (-1)) := ⟨cell_of G6.out.b, cell_of G6.out.b, cell_of G6.out.b, cell_of G6.out.b⟩
      have HSA := Lib.hid hSA
      have HSB : Hid (∀ o, (fun w' : World => w'.cell? ⟨bk, 0, none⟩ = some (.slice Pp 1 pc) ∧ w'.cell? ⟨bk, 1, none⟩ = some (.slice A n c) ∧ w'.cell? ⟨bk, 2, none⟩ = some (.int .i64 4) ∧ w'.cell? ⟨bk, 3, none⟩ = some (.int .i64 (-1))) (w6.alloc o)) := Lib.hid (fun o => by have l : Low w6.heap.size w6 (w6.alloc o) := (Low.refl _ _).alloc (Nat.le_refl _) _; exact ⟨cell_of (l.some G6.out.b), cell_of (l.some G6.out.b), cell_of (l.some G6.out.b), cell_of (l.some G6.out.b)⟩)
      clear hSA
      go_wp2_with fail
      go_loopw [42] (fun i wr => (i = .int .i64 0 ∧ wr = w6) ∨ (i = .int .i64 1 ∧ Low w3.heap.size w3 wr ∧ ∃ g cr A' c' T' tc', w3.heap.size ≤ g ∧ wr.heap[t9]? = some (.cells #[.slice (some ⟨g, 0, none⟩) 1 cr] 39 (0, 0)) ∧ 1 ≤ cr ∧ FnAt wr g Pp pc A' n c' T' tc' l)) (fun i _ => 1 - (intOf i).toNat)
      case atStart => exact .inl ⟨rfl, rfl⟩
      case round =>
        rcases hrel with ⟨rfl, rfl⟩ | ⟨rfl, hC, hF⟩
        · obtain ⟨w6, rfl⟩ : ∃ u, u = wr := ⟨_, rfl⟩
          go_upto_region 15 with fail
          refine wp_region_noPanic ?_
          refine wp_region_held_drew (S := fun w' => w'.cell? ⟨bk, 0, none⟩ = some (.slice Pp 1 pc) ∧ w'.cell? ⟨bk, 1, none⟩ = some (.slice A n c) ∧ w'.cell? ⟨bk, 2, none⟩ = some (.int .i64 4) ∧ w'.cell? ⟨bk, 3, none⟩ = some (.int .i64 (-1))) (by kernel_rfl) (by exact HSA.out) (fun hHeld => ?_)
          refine take_at (i := 0) (v := ?_) rfl (by kernel_rfl) (by kernel_rfl) (by kernel_rfl) (fun _ _ _ h => h) (by rfl) ?_ (by assumption) ?_
          rotate_left
          · intro w' hSw; obtain ⟨s0, s1, s2, s3⟩ := hSw; go_simp; (try with_reducible rfl)
          (try simp only [Act.put, List.setIfInBounds_toArray, List.set_cons_zero, List.set_cons_succ])
          refine take_at (i := 1) (v := ?_) rfl (by kernel_rfl) (by kernel_rfl) (by kernel_rfl) (fun _ _ _ h => h) (by rfl) ?_ (by assumption) ?_
          rotate_left
          · intro w' hSw; obtain ⟨s0, s1, s2, s3⟩ := hSw; go_simp; (try with_reducible rfl)
          (try simp only [Act.put, List.setIfInBounds_toArray, List.set_cons_zero, List.set_cons_succ])
          refine take_at (i := 2) (v := ?_) rfl (by kernel_rfl) (by kernel_rfl) (by kernel_rfl) (fun _ _ _ h => h) (by rfl) ?_ (by assumption) ?_
          rotate_left
          · intro w' hSw; obtain ⟨s0, s1, s2, s3⟩ := hSw; go_simp; (try with_reducible rfl)
          (try simp only [Act.put, List.setIfInBounds_toArray, List.set_cons_zero, List.set_cons_succ])
          refine take_at (i := 3) (v := ?_) rfl (by kernel_rfl) (by kernel_rfl) (by kernel_rfl) (fun _ _ _ h => h) (by rfl) ?_ (by assumption) ?_
          rotate_left
          · intro w' hSw; obtain ⟨s0, s1, s2, s3⟩ := hSw; go_simp; (try with_reducible rfl)
          (try simp only [Act.put, List.setIfInBounds_toArray, List.set_cons_zero, List.set_cons_succ])
          refine take_at (i := 4) (v := ?_) rfl (by kernel_rfl) (by kernel_rfl) (by kernel_rfl) (fun _ _ _ h => h) (by rfl) ?_ (by assumption) ?_
          rotate_left
          · intro w' hSw; obtain ⟨s0, s1, s2, s3⟩ := hSw; go_simp; (try with_reducible rfl)
          (try simp only [Act.put, List.setIfInBounds_toArray, List.set_cons_zero, List.set_cons_succ])
          refine take_at (i := 5) (v := ?_) rfl (by kernel_rfl) (by kernel_rfl) (by kernel_rfl) (fun _ _ _ h => h) (by rfl) ?_ (by assumption) ?_
          rotate_left
          · intro w' hSw; obtain ⟨s0, s1, s2, s3⟩ := hSw; go_simp; (try with_reducible rfl)
          (try simp only [Act.put, List.setIfInBounds_toArray, List.set_cons_zero, List.set_cons_succ])
          refine take_at (i := 6) (v := ?_) rfl (by kernel_rfl) (by kernel_rfl) (by kernel_rfl) (fun _ _ _ h => h) (by rfl) ?_ (by assumption) ?_
          rotate_left
          · intro w' hSw; obtain ⟨s0, s1, s2, s3⟩ := hSw; go_simp; (try with_reducible rfl)
          (try simp only [Act.put, List.setIfInBounds_toArray, List.set_cons_zero, List.set_cons_succ])
          refine take_at (i := 7) (v := ?_) rfl (by kernel_rfl) (by kernel_rfl) (by kernel_rfl) (fun _ _ _ h => h) (by rfl) ?_ (by assumption) ?_
          rotate_left
          · intro w' hSw; obtain ⟨s0, s1, s2, s3⟩ := hSw; go_simp; (try with_reducible rfl)
          (try simp only [Act.put, List.setIfInBounds_toArray, List.set_cons_zero, List.set_cons_succ])
          refine take_at (i := 8) (v := ?_) rfl (by kernel_rfl) (by kernel_rfl) (by kernel_rfl) (fun _ _ _ h => h) (by rfl) ?_ (by assumption) ?_
          rotate_left
          · intro w' hSw; obtain ⟨s0, s1, s2, s3⟩ := hSw; go_simp; (try with_reducible rfl)
          (try simp only [Act.put, List.setIfInBounds_toArray, List.set_cons_zero, List.set_cons_succ])
          refine take_at (i := 9) (v := ?_) rfl (by kernel_rfl) (by kernel_rfl) (by kernel_rfl) (fun _ _ _ h => h) (by rfl) ?_ (by assumption) ?_
          rotate_left
          · intro w' hSw; obtain ⟨s0, s1, s2, s3⟩ := hSw; go_simp; (try with_reducible rfl)
          (try simp only [Act.put, List.setIfInBounds_toArray, List.set_cons_zero, List.set_cons_succ])
          refine take_at (i := 10) (v := ?_) rfl (by kernel_rfl) (by kernel_rfl) (by kernel_rfl) (fun _ _ _ h => h) (by rfl) ?_ (by assumption) ?_
          rotate_left
          · intro w' hSw; obtain ⟨s0, s1, s2, s3⟩ := hSw; go_simp; (try with_reducible rfl)
          (try simp only [Act.put, List.setIfInBounds_toArray, List.set_cons_zero, List.set_cons_succ])
          refine take_at (i := 11) (v := ?_) rfl (by kernel_rfl) (by kernel_rfl) (by kernel_rfl) (fun _ _ _ h => h) (by rfl) ?_ (by assumption) ?_
          rotate_left
          · intro w' hSw; obtain ⟨s0, s1, s2, s3⟩ := hSw; go_simp; (try with_reducible rfl)
          (try simp only [Act.put, List.setIfInBounds_toArray, List.set_cons_zero, List.set_cons_succ])
          refine take_at (i := 12) (v := ?_) rfl (by kernel_rfl) (by kernel_rfl) (by kernel_rfl) (fun _ _ _ h => h) (by rfl) ?_ (by assumption) ?_
          rotate_left
          · intro w' hSw; obtain ⟨s0, s1, s2, s3⟩ := hSw; go_simp; (try with_reducible rfl)
          (try simp only [Act.put, List.setIfInBounds_toArray, List.set_cons_zero, List.set_cons_succ])
          refine take_at (i := 13) (v := ?_) rfl (by kernel_rfl) (by kernel_rfl) (by kernel_rfl) (fun _ _ _ h => h) (by rfl) ?_ (by assumption) ?_
          rotate_left
          · intro w' hSw; obtain ⟨s0, s1, s2, s3⟩ := hSw; go_simp; (try with_reducible rfl)
          (try simp only [Act.put, List.setIfInBounds_toArray, List.set_cons_zero, List.set_cons_succ])
          refine take_at (i := 14) (v := ?_) rfl (by kernel_rfl) (by kernel_rfl) (by kernel_rfl) (fun _ _ _ h => h) (by rfl) ?_ (by assumption) ?_
          rotate_left
          · intro w' hSw; obtain ⟨s0, s1, s2, s3⟩ := hSw; go_simp; (try with_reducible rfl)
          (try simp only [Act.put, List.setIfInBounds_toArray, List.set_cons_zero, List.set_cons_succ])
          refine take_at (i := 15) (v := ?_) rfl (by kernel_rfl) (by kernel_rfl) (by kernel_rfl) (fun _ _ _ h => h) (by rfl) ?_ (by assumption) ?_
          rotate_left
          · intro w' hSw; obtain ⟨s0, s1, s2, s3⟩ := hSw; go_simp; (try with_reducible rfl)
          (try simp only [Act.put, List.setIfInBounds_toArray, List.set_cons_zero, List.set_cons_succ])
          refine take_at (i := 16) (v := ?_) rfl (by kernel_rfl) (by kernel_rfl) (by kernel_rfl) (fun _ _ _ h => h) (by rfl) ?_ (by assumption) ?_
          rotate_left
          · intro w' hSw; obtain ⟨s0, s1, s2, s3⟩ := hSw; go_simp; (try with_reducible rfl)
          (try simp only [Act.put, List.setIfInBounds_toArray, List.set_cons_zero, List.set_cons_succ])
          refine take_at (i := 17) (v := ?_) rfl (by kernel_rfl) (by kernel_rfl) (by kernel_rfl) (fun _ _ _ h => h) (by rfl) ?_ (by assumption) ?_
          rotate_left
          · intro w' hSw; obtain ⟨s0, s1, s2, s3⟩ := hSw; go_simp; (try with_reducible rfl)
          (try simp only [Act.put, List.setIfInBounds_toArray, List.set_cons_zero, List.set_cons_succ])
          refine wpAnyH_ready (rs := [18]) (by kernel_rfl) (by simp) ?_
          refine next_at (i := 18) rfl (fun KK hKK => ?_) AllReadyH.nil
          go_simp
          refine hKK.out _ _ (by exact HSB.out _) (fun hHeld => ?_)
          clear hKK KK
          (try simp only [Act.put, List.setIfInBounds_toArray, List.set_cons_zero, List.set_cons_succ])
          refine wpAnyH_ready (rs := [19]) (by kernel_rfl) (by simp) ?_
          refine next_at (i := 19) rfl (fun KK hKK => ?_) AllReadyH.nil
          go_simp
          refine hKK.out _ _ (by exact HSB.out _) (fun hHeld => ?_)
          clear hKK KK
          (try simp only [Act.put, List.setIfInBounds_toArray, List.set_cons_zero, List.set_cons_succ])
          refine wpAnyH_done (by kernel_rfl) ?_ _
          refine NoPanic.normal ?_
          have l7 : Low w6.heap.size w6 ((w6.alloc (.cells #[.slice Pp 1 pc, .slice A n c, .int .i64 4, .int .i64 (-1), .slice none 0 0] 29)).drew) := ((Low.refl _ w6).alloc (Nat.le_refl _) _).drew
          have r7 : ((w6.alloc (.cells #[.slice Pp 1 pc, .slice A n c, .int .i64 4, .int .i64 (-1), .slice none 0 0] 29)).drew).heap[w6.heap.size]? = some (.cells #[.slice Pp 1 pc, .slice A n c, .int .i64 4, .int .i64 (-1), .slice none 0 0] 29 (0, 0)) := heap_new w6 _
          have L7 := Lib.hid (L6.out.trans (l7.mono L6.out.size))
          have hSl := HS3.out
          have h6s := U6.out.lt
          have h69 := heap_lt T6.out
          have U7 := Lib.hid (U6.out.low (heap_lt U6.out.2) U6.out.lt l7); have T7 := Lib.hid (l7.some T6.out)
          have h912 : t9 ≠ w6.heap.size := by omega
          clear HSB HSA U6 T6 L6 G6 l7 hHeld x6 b6 h6s h69
          generalize w6.heap.size = t12 at r7 h912 ⊢
          generalize (w6.alloc (.cells #[.slice Pp 1 pc, .slice A n c, .int .i64 4, .int .i64 (-1), .slice none 0 0] 29)).drew = w7 at r7 L7 U7 T7 ⊢
          have R7 := Lib.hid r7
          have b7 : w7.cell? ⟨bk, 1, none⟩ = some (.slice A n c) := cell_of (G3.out.low L7.out).b
          clear r7
          go_wp2_with fail
          go_loopw [69] (fun i wx => ∃ q : Nat, i = .int .i64 q ∧ q ≤ n ∧ Chs [S] w7 wx ∧ Used t7 S wx) (fun i _ => n - (intOf i).toNat)
          case atStart => exact ⟨0, rfl, by omega, Chs.refl _ _, U7.out⟩
          case round =>
            obtain ⟨wv, rfl⟩ : ∃ u, u = wr := ⟨_, rfl⟩
            obtain ⟨q, rfl, hq, hL, hD⟩ := hrel
            have lv : Low w3.heap.size w3 wv := L7.out.trans (hL.low (by simpa using hSl) L7.out.size)
            have gv := G3.out.low lv
            by_cases hlt : q < n
            · have hlt' : (q : Int) < (n : Int) := by omega
              have hq0 : (0 : Int) ≤ (q : Int) := by omega
              have hqn : (q : Int) ≤ 12 := by omega
              obtain ⟨o, ho⟩ : ∃ o, l[q]? = some o := ⟨_, List.getElem?_eq_getElem (by have := gv.ops.1; omega)⟩
              obtain ⟨g, cs, rfl, hnc, hg, k0, k1, k2, k3, k4, k5⟩ := gv.ops.2 q o ho
              have c0 : wv.cell? ⟨g, q * 6, none⟩ = some (.int .i64 o.code) := (cell_of hg).trans k0
              have c1 : wv.cell? ⟨g, q * 6 + 1, none⟩ = some (.int .i64 o.res) := (cell_of hg).trans k1
              have c2 : wv.cell? ⟨g, q * 6 + 2, none⟩ = some (.int .i64 0) := (cell_of hg).trans k2
              have c3 : wv.cell? ⟨g, q * 6 + 3, none⟩ = some (.int .i64 0) := (cell_of hg).trans k3
              have c4 : wv.cell? ⟨g, q * 6 + 4, none⟩ = some (.int .u16 o.n) := (cell_of hg).trans k4
              have c5 : wv.cell? ⟨g, q * 6 + 5, none⟩ = some (.slice none 0 0) := (cell_of hg).trans k5
              have okc : OkCode o.code := (gv.ok o (List.mem_of_getElem? ho)).1
              have l9 : Low wv.heap.size wv (wv.alloc (.cells #[.int .i64 o.code, .int .i64 o.res, .int .i64 0, .int .i64 0, .int .u16 o.n, .slice none 0 0] 33)) := (Low.refl _ _).alloc (Nat.le_refl _) _
              have d9 := hD.low (heap_lt hD.2) hD.lt l9
              have hzl : t7 < (wv.alloc (.cells #[.int .i64 o.code, .int .i64 o.res, .int .i64 0, .int .i64 0, .int .u16 o.n, .slice none 0 0] 33)).heap.size := heap_lt d9.2
              have hul := d9.lt
              have a9 := heap_new wv (.cells #[.int .i64 o.code, .int .i64 o.res, .int .i64 0, .int .i64 0, .int .u16 o.n, .slice none 0 0] 33)
              have HL := Lib.hid (hL.tail (l9.mono hL.size))
              clear hL gv lv hD k0 k1 k2 k3 k4 k5 hg b7 l9
              go_upto_region 19 with fail
              clear c0 c1 c2 c3 c4 c5
              generalize wv.heap.size = t14 at a9 ⊢
              generalize wv.alloc (.cells #[.int .i64 o.code, .int .i64 o.res, .int .i64 0, .int .i64 0, .int .u16 o.n, .slice none 0 0] 33) = wa at a9 d9 hzl hul HL ⊢
              have x0 : wa.cell? ⟨t14, 0, none⟩ = some (.int .i64 o.code) := cell_of a9
              have x1 : wa.cell? ⟨t14, 1, none⟩ = some (.int .i64 o.res) := cell_of a9
              have x2 : wa.cell? ⟨t14, 2, none⟩ = some (.int .i64 0) := cell_of a9
              have x3 : wa.cell? ⟨t14, 3, none⟩ = some (.int .i64 0) := cell_of a9
              have x4 : wa.cell? ⟨t14, 4, none⟩ = some (.int .u16 o.n) := cell_of a9
              have x5 : wa.cell? ⟨t14, 5, none⟩ = some (.slice none 0 0) := cell_of a9
              have hmap := mapOp_any _ wa o 63 #[] #[.pointer (some ⟨t7, 0, none⟩)] (Inv.chs wa [S] (Used t7 S) (fun u u' hu hl => hu.low hzl hul hl)) ⟨Chs.refl _ _, d9⟩ okc enters63 (used_keeps wa t7 S hzl hul)
              clear a9 d9
              go_wp2_with (first
                | (go_at_call 35; refine hmap.mono ?_; rintro e w8 ⟨rfl, hc8, hu8⟩))
              exact ⟨⟨q + 1, rfl, hlt, HL.out.trans hc8, hu8⟩, by show n - ((q : Int) + 1).toNat < n - ((q : Int)).toNat; omega⟩
            · have hlt' : ¬ (q : Int) < (n : Int) := by omega
              have hb : wv.heap[bk]? = _ := gv.b
              have hrd := blockReads_any wv bk (cell_of hb) (cell_of hb)
              have LV := Lib.hid lv; have GV := Lib.hid gv
              have tv := hL.obj T7.out (by
                intro hm
                rw [List.mem_singleton] at hm
                obtain ⟨⟨m, ⟨es, cl, hg, _⟩⟩, h2⟩ := U7.out
                rw [← hm, T7.out] at hg; cases hg)
              have rv := hL.obj R7.out (by
                intro hm
                rw [List.mem_singleton] at hm
                obtain ⟨⟨m, ⟨es, cl, hg, _⟩⟩, h2⟩ := U7.out
                rw [← hm, R7.out] at hg; cases hg)
              have TV := Lib.hid tv; have RV := Lib.hid rv
              clear tv rv hb lv gv hL hD b7
              go_upto_region 23 with (first
                | (go_at_call 47; with_reducible refine hrd.mono ?_; rintro e w8 ⟨rfl, l8⟩))
              have L8 := Lib.hid (LV.out.trans (l8.mono LV.out.size)); have T8 := Lib.hid (l8.some TV.out); have R8 := Lib.hid (l8.some RV.out)
              have y8 : w8.cell? ⟨bk, 4, none⟩ = some (.slice T' 0 tc') := cell_of (GV.out.low l8).b
              clear l8 hrd GV LV TV RV
              go_wp2_with fail
              go_loopw [90] (fun i wr => i = .int .i64 0 ∧ wr = w8) (fun _ _ => 0)
              case atStart => exact ⟨rfl, rfl⟩
              case round =>
                obtain ⟨rfl, rfl⟩ := hrel
                obtain ⟨w8, rfl⟩ : ∃ u, u = wr := ⟨_, rfl⟩
                clear y8
                have z0 : w8.cell? ⟨t12, 0, none⟩ = some (.slice Pp 1 pc) := cell_of R8.out
                have z1 : w8.cell? ⟨t12, 1, none⟩ = some (.slice A n c) := cell_of R8.out
                have z2' : w8.cell? ⟨t12, 2, none⟩ = some (.int .i64 4) := cell_of R8.out
                have z3 : w8.cell? ⟨t12, 3, none⟩ = some (.int .i64 (-1)) := cell_of R8.out
                have z4 : w8.cell? ⟨t12, 4, none⟩ = some (.slice none 0 0) := cell_of R8.out
                have t8 : w8.cell? ⟨t9, 0, none⟩ = some (.slice none 0 0) := cell_of T8.out
                go_upto_region 28 with fail
                go_upto_region 29 with (first
                  | (at_builtin; refine wpList_app1 (w := w8.alloc (.cells #[.slice Pp 1 pc, .slice A n c, .int .i64 4, .int .i64 (-1), .slice none 0 0] 29)) (P := Tryz.prog) (base := w8.heap.size) (n := 0) (m := 1) (xs := []) ap37 rfl (.tmp 112) (.tmp 114) rfl rfl (show Own _ w8.heap.size 29 5 (Value.slice none 0 0) 0 [] from Own.nil _ _ _ _) rfl (heap_new w8 _) rfl (by simp [Value.oneCell']) (by omega) (by simp) ?_; intro v9 w9 happ0; have happ : App1 (w8.alloc (.cells #[.slice Pp 1 pc, .slice A n c, .int .i64 4, .int .i64 (-1), .slice none 0 0] 29)) w9 w8.heap.size 29 5 (.slice none 0 0) v9 0 [] 1 [.slice Pp 1 pc, .slice A n c, .int .i64 4, .int .i64 (-1), .slice none 0 0] := happ0; clear happ0; obtain ⟨g, cg, cs, rfl, hSr, hr, hcg, hown⟩ := happ.row (k := 1) rfl (by decide); have l9 : Low w8.heap.size w8 w9 := ((Low.refl w8.heap.size w8).alloc (Nat.le_refl _) _).trans (happ.low (Own.nil _ _ _ _) (Nat.le_refl _) (by simp)); have o9 := l9.some T8.out; have f9 : w9.frozen? ⟨t9, 0, none⟩ = false := free_of o9; have HOWN := Lib.hid hown; have HR := Lib.hid hr; have L9 := Lib.hid l9; have O9 := Lib.hid o9; have x9 : w9.cell? ⟨t9, 0, none⟩ = some (.slice none 0 0) := cell_of o9; clear happ hown hr l9 o9 z0 z1 z2' z3 z4 t8))
                have ht9s := heap_lt T8.out
                have hgt : g ≠ t9 := by omega
                have hw39 : w3.heap.size ≤ t9 := by have := HT.out.2; omega
                have LF := Lib.hid ((L8.out.trans (L9.out.mono L8.out.size)).setCell hw39 (i := 0) (.slice (some ⟨g, 0, none⟩) 1 cg))
                have FF := Lib.hid (show FnAt (w9.setCell ⟨t9, 0, none⟩ (.slice (some ⟨g, 0, none⟩) 1 cg)) g Pp pc A n c none 0 l from ⟨⟨cs, (set_other hgt).trans HR.out, (cell_of HR.out).symm.trans (HOWN.out.cell rfl), (cell_of HR.out).symm.trans (HOWN.out.cell rfl), (cell_of HR.out).symm.trans (HOWN.out.cell rfl), (cell_of HR.out).symm.trans (HOWN.out.cell rfl), (cell_of HR.out).symm.trans (HOWN.out.cell rfl)⟩, (G3.out.low LF.out).ops, P3.out.low LF.out, G3.out.ok, hn12, G3.out.inc⟩)
                have TF := Lib.hid (set_blk (i := 0) (v := .slice (some ⟨g, 0, none⟩) 1 cg) O9.out)
                clear x9 f9 ht9s hgt hw39
                go_wp2_with fail
                exact ⟨.inr ⟨rfl, LF.out, g, cg, A, c, none, 0, Nat.le_trans L8.out.size hSr, TF.out, hcg, FF.out⟩, by decide⟩
        · obtain ⟨g, cg, A', c', T'', tc'', hg3, ht9, hcg, hF⟩ := hF
          have HG3 := Lib.hid hg3
          clear hg3
          obtain ⟨wa, rfl⟩ : ∃ u, u = wr := ⟨_, rfl⟩
          have ga := G3.out.low hC
          have y6 : wa.cell? ⟨gr, 6, none⟩ = some (.map (some cm)) := cell_of ga.g
          obtain ⟨ob1, hrg, a, rfl⟩ := range_empty (P := Tryz.prog) (t := 70) Tryz.underlying70 ga.cm_
          have l5 : Low wa.heap.size wa (wa.alloc (.mapIter (some cm) a #[] a)) := (Low.refl _ wa).alloc (Nat.le_refl _) _
          have hnx : ∀ ty, (Instr.next (.pointer (some ⟨wa.heap.size, 0, none⟩)) false ty).run Tryz.prog (wa.alloc (.mapIter (some cm) a #[] a)) = .ok (.tuple #[.bool false]) (wa.alloc (.mapIter (some cm) a #[] a)) := fun ty => next_empty (heap_new _ _) (ga.cm_.low l5)
          have LB := Lib.hid (hC.trans (l5.mono hC.size)); have TB := Lib.hid (l5.some ht9); have FB := Lib.hid (hF.low l5)
          clear HSB HSA ga l5 hC hF ht9 U6 T6 b6 x6 L6 G6
          go_upto_region 32 with fail
          clear hrg y6
          generalize wa.heap.size = it1 at hnx ⊢
          generalize wa.alloc (.mapIter (some cm) a #[] a) = wb at hnx LB TB FB ⊢
          go_loopw [17] (fun b wr => b = .slice none 0 0 ∧ wr = wb) (fun _ _ => 0)
          case atStart => exact ⟨rfl, rfl⟩
          case round =>
            obtain ⟨rfl, rfl⟩ := hrel
            obtain ⟨wb, rfl⟩ : ∃ u, u = wr := ⟨_, rfl⟩
            have gb := G3.out.low LB.out
            have y7 : wb.cell? ⟨gr, 7, none⟩ = some (.map (some om)) := cell_of gb.g
            obtain ⟨ob2, hrg, a2, rfl⟩ := range_empty (P := Tryz.prog) (t := 71) Tryz.underlying71 gb.om_
            have l5 : Low wb.heap.size wb (wb.alloc (.mapIter (some om) a2 #[] a2)) := (Low.refl _ wb).alloc (Nat.le_refl _) _
            have hny : ∀ ty, (Instr.next (.pointer (some ⟨wb.heap.size, 0, none⟩)) false ty).run Tryz.prog (wb.alloc (.mapIter (some om) a2 #[] a2)) = .ok (.tuple #[.bool false]) (wb.alloc (.mapIter (some om) a2 #[] a2)) := fun ty => next_empty (heap_new _ _) (gb.om_.low l5)
            have LD := Lib.hid (LB.out.trans (l5.mono LB.out.size)); have TD := Lib.hid (l5.some TB.out); have FD := Lib.hid (FB.out.low l5)
            clear gb l5 LB TB FB
            go_upto_region 36 with fail
            clear hrg y7 hnx
            generalize wb.heap.size = it2 at hny ⊢
            generalize wb.alloc (.mapIter (some om) a2 #[] a2) = wd at hny LD TD FD ⊢
            go_loopw [17] (fun b wr => b = .slice none 0 0 ∧ wr = wd) (fun _ _ => 0)
            case atStart => exact ⟨rfl, rfl⟩
            case round =>
              obtain ⟨rfl, rfl⟩ := hrel
              obtain ⟨wd, rfl⟩ : ∃ u, u = wr := ⟨_, rfl⟩
              have td : wd.cell? ⟨t9, 0, none⟩ = some (.slice (some ⟨g, 0, none⟩) 1 cg) := cell_of TD.out
              obtain ⟨cs, hgc, q0, q1, q2, q3, q4⟩ := FD.out.row
              have d1 : wd.cell? ⟨g, 1, none⟩ = some (.slice A' n c') := (cell_of hgc).trans q1
              have HSA := Lib.hid td; have HGC := Lib.hid hgc; have Q0 := Lib.hid q0; have Q1 := Lib.hid q1; have Q2 := Lib.hid q2; have Q3 := Lib.hid q3; have Q4 := Lib.hid q4
              have hdn := fun u => delete_nil u (.func (.func 64) #[] #[.pointer (some ⟨t7, 0, none⟩)])
              have hsn := fun u => sort_nil u (.func (.func 66) #[] #[])
              clear hgc q0 q1 q2 q3 q4 td
              go_upto_region 41 with (first
                | (go_at_call 56; with_reducible refine (hdn _).mono ?_; rintro e w8 ⟨rfl, rfl⟩)
                | (go_at_call 65; refine (sort_nil _ _).mono ?_; rintro e w8 ⟨rfl, rfl⟩))
              refine wp_region_noPanic ?_
              refine wp_region_held_drew (S := fun w' => w'.cell? ⟨t9, 0, none⟩ = some (.slice (some ⟨g, 0, none⟩) 1 cg)) (by kernel_rfl) (by exact HSA.out) (fun hHeld => ?_)
              refine take_at (i := 0) (v := ?_) rfl (by kernel_rfl) (by kernel_rfl) (by kernel_rfl) (fun _ _ _ h => h) (by rfl) ?_ (by assumption) ?_
              rotate_left
              · intro w' hSw; have s1 := hSw; (try dsimp only at s1); go_simp; (try with_reducible rfl)
              (try simp only [Act.put, List.setIfInBounds_toArray, List.set_cons_zero, List.set_cons_succ])
              refine take_at (i := 1) (v := ?_) rfl (by kernel_rfl) (by kernel_rfl) (by kernel_rfl) (fun _ _ _ h => h) (by rfl) ?_ (by assumption) ?_
              rotate_left
              · intro w' hSw; have s1 := hSw; (try dsimp only at s1); go_simp; (try with_reducible rfl)
              (try simp only [Act.put, List.setIfInBounds_toArray, List.set_cons_zero, List.set_cons_succ])
              refine take_at (i := 2) (v := ?_) rfl (by kernel_rfl) (by kernel_rfl) (by kernel_rfl) (fun _ _ _ h => h) (by rfl) ?_ (by assumption) ?_
              rotate_left
              · intro w' hSw; have s1 := hSw; (try dsimp only at s1); go_simp; (try with_reducible rfl)
              (try simp only [Act.put, List.setIfInBounds_toArray, List.set_cons_zero, List.set_cons_succ])
              refine take_at (i := 3) (v := ?_) rfl (by kernel_rfl) (by kernel_rfl) (by kernel_rfl) (fun _ _ _ h => h) (by rfl) ?_ (by assumption) ?_
              rotate_left
              · intro w' hSw; have s1 := hSw; (try dsimp only at s1); go_simp; (try with_reducible rfl)
              (try simp only [Act.put, List.setIfInBounds_toArray, List.set_cons_zero, List.set_cons_succ])
              refine take_at (i := 4) (v := ?_) rfl (by kernel_rfl) (by kernel_rfl) (by kernel_rfl) (fun _ _ _ h => h) (by rfl) ?_ (by assumption) ?_
              rotate_left
              · intro w' hSw; have s1 := hSw; (try dsimp only at s1); go_simp; (try with_reducible rfl)
              (try simp only [Act.put, List.setIfInBounds_toArray, List.set_cons_zero, List.set_cons_succ])
              refine take_at (i := 5) (v := ?_) rfl (by kernel_rfl) (by kernel_rfl) (by kernel_rfl) (fun _ _ _ h => h) (by rfl) ?_ (by assumption) ?_
              rotate_left
              · intro w' hSw; have s1 := hSw; (try dsimp only at s1); go_simp; (try with_reducible rfl)
              (try simp only [Act.put, List.setIfInBounds_toArray, List.set_cons_zero, List.set_cons_succ])
              refine take_at (i := 6) (v := ?_) rfl (by kernel_rfl) (by kernel_rfl) (by kernel_rfl) (fun _ _ _ h => h) (by rfl) ?_ (by assumption) ?_
              rotate_left
              · intro w' hSw; have s1 := hSw; (try dsimp only at s1); go_simp; (try with_reducible rfl)
              (try simp only [Act.put, List.setIfInBounds_toArray, List.set_cons_zero, List.set_cons_succ])
              refine wpAnyH_ready (rs := [7]) (by kernel_rfl) (by simp) ?_
              refine next_at (i := 7) rfl (fun KK hKK => ?_) AllReadyH.nil
              go_simp
              refine hKK.out _ _ (by exact HSA.out) (fun hHeld => ?_)
              clear hKK KK
              (try simp only [Act.put, List.setIfInBounds_toArray, List.set_cons_zero, List.set_cons_succ])
              refine wpAnyH_ready (rs := [8]) (by kernel_rfl) (by simp) ?_
              refine next_at (i := 8) rfl (fun KK hKK => ?_) AllReadyH.nil
              refine step_app_row (w := w8.drew) (l := l) rfl (.tmp 160) (.tmp 165) rfl rfl rfl (FD.out.ops.low (Low.refl _ w8).drew) hn12 ?_
              intro A2 c2 w10 l10 o10
              have l10' : Low w8.heap.size w8 w10 := ((Low.refl _ w8).drew).trans l10
              have hg10 := l10'.some HGC.out
              have ht10 : w10.cell? ⟨t9, 0, none⟩ = some (.slice (some ⟨g, 0, none⟩) 1 cg) := cell_of (l10'.some TD.out)
              have f10 : w10.frozen? ⟨g, 1, none⟩ = false := free_of hg10
              have d10 : w10.cell? ⟨g, 1, none⟩ = some (.slice A' n c') := (cell_of hg10).trans Q1.out
              have ht9g : t9 ≠ g := by
                rintro rfl
                have := TD.out
                rw [HGC.out] at this; cases this
              have LL := Lib.hid l10'; have OO := Lib.hid o10; have HG10 := Lib.hid hg10
              clear l10 l10' o10 hg10
              refine hKK.out _ _ (by exact ht10) (fun hHeld => ?_)
              clear hKK KK
              (try simp only [Act.put, List.setIfInBounds_toArray, List.set_cons_zero, List.set_cons_succ])
              refine take_at (i := 9) (v := ?_) rfl (by kernel_rfl) (by kernel_rfl) (by kernel_rfl) (fun _ _ _ h => h) (by rfl) ?_ (by assumption) ?_
              rotate_left
              · intro w' hSw; have s1 := hSw; (try dsimp only at s1); go_simp; (try with_reducible rfl)
              (try simp only [Act.put, List.setIfInBounds_toArray, List.set_cons_zero, List.set_cons_succ])
              refine take_at (i := 10) (v := ?_) rfl (by kernel_rfl) (by kernel_rfl) (by kernel_rfl) (fun _ _ _ h => h) (by rfl) ?_ (by assumption) ?_
              rotate_left
              · intro w' hSw; have s1 := hSw; (try dsimp only at s1); go_simp; (try with_reducible rfl)
              (try simp only [Act.put, List.setIfInBounds_toArray, List.set_cons_zero, List.set_cons_succ])
              refine wpAnyH_ready (rs := [11]) (by kernel_rfl) (by simp) ?_
              refine next_at (i := 11) rfl (fun KK hKK => ?_) AllReadyH.nil
              go_simp
              refine hKK.out _ _ (by exact ((World.cell?_of_block (a := ⟨t9, 0, none⟩) (set_other ht9g)).trans ht10)) (fun hHeld => ?_)
              clear hKK KK
              (try simp only [Act.put, List.setIfInBounds_toArray, List.set_cons_zero, List.set_cons_succ])
              refine wpAnyH_done (by kernel_rfl) ?_ _
              refine NoPanic.normal ?_
              have lE : Low w3.heap.size w3 (w10.setCell ⟨g, 1, none⟩ (.slice A2 n c2)) := (LD.out.trans (LL.out.mono LD.out.size)).setCell HG3.out _
              have cE : Chs [g] w10 (w10.setCell ⟨g, 1, none⟩ (.slice A2 n c2)) := Chs.setCell _ (List.mem_singleton.2 rfl) _
              have oE : OpsAt (w10.setCell ⟨g, 1, none⟩ (.slice A2 n c2)) A2 n c2 l := OO.out.chs cE (fun g' cs' hg' hm => by
                rw [List.mem_singleton] at hm
                subst hm
                rw [HG10.out] at hg'; cases hg')
              have pE : ParAt (w10.setCell ⟨g, 1, none⟩ (.slice A2 n c2)) Pp pc := (FD.out.par.low LL.out).chs cE (fun b hb cs' hg' => by
                rw [List.mem_singleton] at hb
                subst hb
                rw [HG10.out] at hg'; cases hg')
              have rE := set_blk (i := 1) (v := .slice A2 n c2) HG10.out
              have aE := lE.some A3.out
              have hsz : 1 < cs.size := (Array.getElem?_eq_some_iff.1 Q1.out).1
              have FE := Lib.hid (show FnAt (w10.setCell ⟨g, 1, none⟩ (.slice A2 n c2)) g Pp pc A2 n c2 T'' tc'' l from ⟨⟨_, rE, by rw [Array.getElem?_setIfInBounds_ne (by decide)]; exact Q0.out, by rw [Array.getElem?_setIfInBounds_self_of_lt hsz], by rw [Array.getElem?_setIfInBounds_ne (by decide)]; exact Q2.out, by rw [Array.getElem?_setIfInBounds_ne (by decide)]; exact Q3.out, by rw [Array.getElem?_setIfInBounds_ne (by decide)]; exact Q4.out⟩, oE, pE, FD.out.ok, hn12, FD.out.inc⟩)
              have LE := Lib.hid lE; have AE := Lib.hid aE
              clear lE cE oE pE rE aE hsz f10 d10 ht10 ht9g
              have e9 : (w10.setCell ⟨g, 1, none⟩ (.slice A2 n c2)).cell? ⟨t9, 0, none⟩ = some (.slice (some ⟨g, 0, none⟩) 1 cg) := hHeld
              clear hHeld
              generalize w10.setCell ⟨g, 1, none⟩ (.slice A2 n c2) = wE at FE LE AE e9 ⊢
              have e2 : wE.cell? ⟨z2, 0, none⟩ = some (.slice none 0 0) := cell_of AE.out
              have f2 : wE.frozen? ⟨z2, 0, none⟩ = false := free_of AE.out
              have HFIN := Lib.hid (show Chs [bk] w (wE.setCell ⟨z2, 0, none⟩ (.slice (some ⟨g, 0, none⟩) 1 cg)) ∧ FnAt (wE.setCell ⟨z2, 0, none⟩ (.slice (some ⟨g, 0, none⟩) 1 cg)) g Pp pc A2 n c2 T'' tc'' l from by
                have cZ : Chs [z2] wE (wE.setCell ⟨z2, 0, none⟩ (.slice (some ⟨g, 0, none⟩) 1 cg)) := Chs.setCell _ (List.mem_singleton.2 rfl) _
                have hno : ∀ {b : Nat} {cs : Array Value} {e : TypeId} {fr : Nat × Nat}, wE.heap[b]? = some (.cells cs e fr) → e ≠ 39 → b ∉ [z2] := fun {b cs e fr} hb he hm => by
                  rw [List.mem_singleton] at hm
                  subst hm
                  rw [AE.out] at hb
                  cases hb
                  exact he rfl
                obtain ⟨cs3, r0, r1⟩ := FE.out.row
                refine ⟨C3.out.tail ((LE.out.mono C3.out.size).setCell (by have := HZ2.out; omega) _), ⟨cs3, cZ.obj r0 (hno r0 (by decide)), r1⟩, FE.out.ops.chs cZ (fun b cs hb => hno hb (by decide)), FE.out.par.chs cZ (fun b hb cs hb2 => hno hb2 (by decide) hb), FE.out.ok, hn12, FE.out.inc⟩)
              go_wp2_with fail
              have e2' : (wE.setCell ⟨z2, 0, none⟩ (.slice (some ⟨g, 0, none⟩) 1 cg)).cell? ⟨z2, 0, none⟩ = some (.slice (some ⟨g, 0, none⟩) 1 cg) := cell_of (set_blk AE.out)
              exact bodyPost_ret (v := .agg #[.slice (some ⟨g, 0, none⟩) 1 cg]) (by simp [results, Tryz.results21, go_sem, e2']; done) rfl ⟨HFIN.out.1, g, cg, A2, c2, T'', tc'', rfl, hcg, HFIN.out.2⟩
end Go.Proofs.YtnjdegjpmbdboaaGreat
