/- canon of a function of one block. -/
import Derived.Test.YtnjdegjpmbdboaaGreatQU
namespace Go.Proofs.YtnjdegjpmbdboaaGreat
open Go.RowKit
set_option linter.unusedVariables false
theorem five_sets {w : World} {S g : Nat} {e : TypeId} {a0 a1 a2 a3 a4 v0 v1 v2 v3 v4 : Value} (h : w.heap[g]? = some (.cells #[a0, a1, a2, a3, a4] e (0, 0))) (hg : S ≤ g) :
    ∀ w', w' = ((((w.setCell ⟨g, 0, none⟩ v0).setCell ⟨g, 1, none⟩ v1).setCell ⟨g, 2, none⟩ v2).setCell ⟨g, 3, none⟩ v3).setCell ⟨g, 4, none⟩ v4 → w'.heap[g]? = some (.cells #[v0, v1, v2, v3, v4] e (0, 0)) ∧ Low S w w' ∧ (∀ b, b ≠ g → w'.heap[b]? = w.heap[b]?) := by
  rintro w' rfl
  refine ⟨set_blk (set_blk (set_blk (set_blk (set_blk h)))), (((((Low.refl S w).setCell hg _).setCell hg _).setCell hg _).setCell hg _).setCell hg _, fun b hb => ?_⟩
  rw [set_other hb, set_other hb, set_other hb, set_other hb, set_other hb]
/-- canon's variables. -/
theorem canon_vars {w : World} {t1 t2 pm t3 t4 t5 : Nat} (o0 o1 o3 o4 o5 : Obj) (h1 : t1 = w.heap.size) (h2 : t2 = t1 + 1) (h3 : pm = t1 + 1 + 1) (h4 : t3 = t1 + 1 + 1 + 1) (h5 : t4 = t1 + 1 + 1 + 1 + 1) (h6 : t5 = t1 + 1 + 1 + 1 + 1 + 1) :
    ∀ w1, w1 = (((((w.alloc o0).alloc o1).alloc (.map #[] 0)).alloc o3).alloc o4).alloc o5 → Low w.heap.size w w1 ∧ w1.heap[t1]? = some o0 ∧ w1.heap[t2]? = some o1 ∧ Empty w1 pm ∧ w1.heap[t3]? = some o3 ∧ w1.heap[t4]? = some o4 ∧ w1.heap[t5]? = some o5 := by
  rintro w1 rfl
  subst h2 h3 h4 h5 h6
  obtain ⟨a1, s1, u1⟩ := alloc_at o0 h1.symm
  obtain ⟨a2, s2, u2⟩ := alloc_at o1 s1
  obtain ⟨a3, s3, u3⟩ := alloc_at (.map #[] 0) s2
  obtain ⟨a4, s4, u4⟩ := alloc_at o3 s3
  obtain ⟨a5, s5, u5⟩ := alloc_at o4 s4
  obtain ⟨a6, s6, u6⟩ := alloc_at o5 s5
  exact ⟨((((((Low.refl _ w).alloc (Nat.le_refl _) _).alloc (by omega) _).alloc (by omega) _).alloc (by omega) _).alloc (by omega) _).alloc (by omega) _, u6 _ _ (u5 _ _ (u4 _ _ (u3 _ _ (u2 _ _ a1)))), u6 _ _ (u5 _ _ (u4 _ _ (u3 _ _ a2))), ⟨0, u6 _ _ (u5 _ _ (u4 _ _ a3))⟩, u6 _ _ (u5 _ _ a4), u6 _ _ a5, a6⟩
/-- What stands while canon numbers. -/
structure CI (w wx : World) (t1 t2 t4 go t6 um g cg co : Nat) : Prop where
  lo : Low w.heap.size w wx
  hum : w.heap.size ≤ um
  f1 : wx.heap[t1]? = some (.cells #[.slice (some ⟨g, 0, none⟩) 1 cg] 39 (0, 0))
  f2 : wx.heap[t2]? = some (.cells #[.slice none 0 0] 39 (0, 0))
  f4 : wx.heap[t4]? = some (.cells #[.slice (some ⟨go, 0, none⟩) 1 co] 22 (0, 0))
  fgo : ∃ cs, wx.heap[go]? = some (.cells cs 3 (0, 0)) ∧ cs[0]? = some (.int .i64 0)
  f6 : wx.heap[t6]? = some (.cells #[.map (some um)] 53 (0, 0))
section
variable {w wx wy : World} {t1 t2 t4 go t6 um g cg co : Nat}
theorem CI.chs {B : List Nat} (h : CI w wx t1 t2 t4 go t6 um g cg co) (hc : Chs B wx wy) (hB : ∀ b ∈ B, w.heap.size ≤ b ∧ ∀ cs e fr, wx.heap[b]? = some (.cells cs e fr) → e ≠ 39 ∧ e ≠ 22 ∧ e ≠ 3 ∧ e ≠ 53) : CI w wy t1 t2 t4 go t6 um g cg co := by
  have key : ∀ {b : Nat} {cs : Array Value} {e : TypeId} {fr : Nat × Nat}, wx.heap[b]? = some (.cells cs e fr) → (e = 39 ∨ e = 22 ∨ e = 3 ∨ e = 53) → wy.heap[b]? = some (.cells cs e fr) := fun {b cs e fr} hb he => hc.obj hb fun hm => by
    obtain ⟨_, h⟩ := hB b hm
    obtain ⟨a, b, c, d⟩ := h _ _ _ hb
    rcases he with he | he | he | he
    · exact a he
    · exact b he
    · exact c he
    · exact d he
  obtain ⟨cs, hg, h0⟩ := h.fgo
  exact ⟨h.lo.trans (hc.low (fun b hb => (hB b hb).1) h.lo.size), h.hum, key h.f1 (.inl rfl), key h.f2 (.inl rfl), key h.f4 (.inr (.inl rfl)), ⟨cs, key hg (.inr (.inr (.inl rfl))), h0⟩, key h.f6 (.inr (.inr (.inr rfl)))⟩
theorem CI.low (h : CI w wx t1 t2 t4 go t6 um g cg co) (hl : Low wx.heap.size wx wy) : CI w wy t1 t2 t4 go t6 um g cg co := h.chs (B := []) (Chs.of_low hl) (by simp)
/-- A number is noted. -/
theorem CI.put (h : CI w wx t1 t2 t4 go t6 um g cg co) {m : List (Int × Value)} (hm : IMap wx um m) (r : Int) : (∀ ty, (Builtin.len_ #[53] ty #[.map (some um)]).run Tryz.prog wx = .ok (.int .i64 (m.length : Nat)) wx) ∧ ∃ es' cl', (Instr.mapUpdate 53 (.map (some um)) (.int .i64 r) (.int .i64 (m.length : Nat))).run Tryz.prog wx = .ok () (Go.ChangeMaps.setBlock wx um (.map es' cl')) ∧ CI w (Go.ChangeMaps.setBlock wx um (.map es' cl')) t1 t2 t4 go t6 um g cg co ∧ IMap (Go.ChangeMaps.setBlock wx um (.map es' cl')) um (putI m r (.int .i64 (m.length : Nat))) := by
  have hlt := hm.lt
  obtain ⟨es', cl', hu, he'⟩ := update_i (P := Tryz.prog) (t := 53) Tryz.underlying53 Tryz.underlying3 hm (k := r) (.int .i64 (m.length : Nat))
  obtain ⟨es, cl, hg, he⟩ := hm
  refine ⟨fun ty => ?_, es', cl', hu, h.chs (B := [um]) (Chs.setBlock _ (List.mem_singleton.2 rfl) _) ?_, es', cl', setBlock_at _ hlt, he'⟩
  · have hsz : es.size = m.length := by
      have := congrArg List.length he
      simpa using this
    simp [Builtin.len_, run_underlying Tryz.underlying53, MapKept.run_getObj_map hg, goInt, hsz]
  · intro b hb
    rw [List.mem_singleton] at hb
    subst hb
    refine ⟨h.hum, fun cs e fr hb => ?_⟩
    rw [hg] at hb; cases hb
end
set_option maxRecDepth 100000 in
set_option maxHeartbeats 8000000 in
theorem canon_any (w : World) (g cg : Nat) (Pp : Option Addr) (pc : Nat) (A : Option Addr) (n c : Nat) (T : Option Addr) (tc : Nat) (l : List Opn) (h : FnAt w g Pp pc A n c T tc l) :
    Calls Tryz.prog 13 #[.agg #[.slice (some ⟨g, 0, none⟩) 1 cg]] w (fun e w' => Low w.heap.size w w' ∧ ∃ g' cr Pp' pc' A' c', e = .returned (.agg #[.slice (some ⟨g', 0, none⟩) 1 cr]) ∧ 1 ≤ cr ∧ FnAt w' g' Pp' pc' A' n c' none 0 (renum l 1)) := by
  have hmf : ∀ (fn : Fn) (first cap : Array Value) (w : World), (Instr.makeFunc fn first cap).run Tryz.prog w = .ok (.func fn first cap) w := fun _ _ _ _ => rfl
  have hmm : ∀ u : World, (Instr.makeMap 53 none).run Tryz.prog u = .ok (.map (some u.heap.size)) (u.alloc (.map #[] 0)) := fun u => by kernel_rfl
  have H := Lib.hid h
  have hn12 : n ≤ 12 := h.small
  clear h
  go_enter Tryz.func13, Tryz.ntmps13
  go_upto_region 5 with fail
  obtain ⟨t1, ht1⟩ : ∃ t, t = w.heap.size := ⟨_, rfl⟩
  obtain ⟨t2, ht2⟩ : ∃ t, t = t1 + 1 := ⟨_, rfl⟩
  obtain ⟨pm, hpm⟩ : ∃ t, t = t1 + 1 + 1 := ⟨_, rfl⟩
  obtain ⟨t3, ht3⟩ : ∃ t, t = t1 + 1 + 1 + 1 := ⟨_, rfl⟩
  obtain ⟨t4, ht4⟩ : ∃ t, t = t1 + 1 + 1 + 1 + 1 := ⟨_, rfl⟩
  obtain ⟨t5, ht5⟩ : ∃ t, t = t1 + 1 + 1 + 1 + 1 + 1 := ⟨_, rfl⟩
  rw [← ht1, ← ht5, ← ht4, ← ht3, ← hpm, ← ht2]
  have h1 := canon_vars (.cells #[.slice (some ⟨g, 0, none⟩) 1 cg] 39) (.cells #[.slice none 0 0] 39) (.cells #[.map (some pm)] 53) (.cells #[.slice none 0 0] 22) (.cells #[.func (.func 32) #[] #[.pointer (some ⟨t3, 0, none⟩), .pointer (some ⟨t4, 0, none⟩), .pointer (some ⟨t1, 0, none⟩), .pointer (some ⟨t5, 0, none⟩)]] 85) ht1 ht2 hpm ht3 ht4 ht5 _ rfl
  have HT := Lib.hid (show t1 = w.heap.size ∧ t2 = t1 + 1 ∧ pm = t1 + 1 + 1 ∧ t3 = t1 + 1 + 1 + 1 ∧ t4 = t1 + 1 + 1 + 1 + 1 ∧ t5 = t1 + 1 + 1 + 1 + 1 + 1 from ⟨ht1, ht2, hpm, ht3, ht4, ht5⟩)
  clear ht1 ht2 hpm ht3 ht4 ht5
  generalize (((((w.alloc (.cells #[.slice (some ⟨g, 0, none⟩) 1 cg] 39)).alloc (.cells #[.slice none 0 0] 39)).alloc (.map #[] 0)).alloc (.cells #[.map (some pm)] 53)).alloc (.cells #[.slice none 0 0] 22)).alloc (.cells #[.func (.func 32) #[] #[.pointer (some ⟨t3, 0, none⟩), .pointer (some ⟨t4, 0, none⟩), .pointer (some ⟨t1, 0, none⟩), .pointer (some ⟨t5, 0, none⟩)]] 85) = w1 at h1 ⊢
  obtain ⟨l1, f1, f2, epm, f3, f4, f5⟩ := h1
  obtain ⟨cs0, r0, r1, r2, r3, r4, r5⟩ := (H.out.low l1).row
  have hvis := number_visit w1 t3 t4 t1 pm g cg tc (.pointer (some ⟨t5, 0, none⟩)) T f3 epm f4 f1 ((cell_of r0).trans r5) ⟨cs0, r0⟩
  have y5 : w1.cell? ⟨t5, 0, none⟩ = some (.func (.func 32) #[] #[.pointer (some ⟨t3, 0, none⟩), .pointer (some ⟨t4, 0, none⟩), .pointer (some ⟨t1, 0, none⟩), .pointer (some ⟨t5, 0, none⟩)]) := cell_of f5
  have L1 := Lib.hid l1; have F1 := Lib.hid f1; have F2 := Lib.hid f2
  clear l1 f1 f2 epm f3 f4 f5 r0 r1 r2 r3 r4 r5
  go_upto_region 6 with (first
    | (go_at_call 32; with_reducible refine hvis.mono ?_; rintro e w2 ⟨rfl, c2, go, co, cs, hgo, f4, fgo, fg0⟩))
  obtain ⟨ht1, ht2, hpm, ht3, ht4, ht5⟩ := HT.out
  have f1 := c2.obj F1.out (by simp; omega)
  have f2 := c2.obj F2.out (by simp; omega)
  have l2 := L1.out.trans (c2.low (by simp; omega) L1.out.size)
  obtain ⟨S, hS⟩ : ∃ S, w2.heap.size = S := ⟨_, rfl⟩
  obtain ⟨a1, s1, u1⟩ := alloc_at (.map #[] 0) hS
  obtain ⟨a2, s2, u2⟩ := alloc_at (.cells #[.map (some S)] 53) s1
  have C3 : CI w ((w2.alloc (.map #[] 0)).alloc (.cells #[.map (some S)] 53)) t1 t2 t4 go (S + 1) S g cg co := ⟨(l2.alloc l2.size _).alloc (by have := l2.size; omega) _, by have := l2.size; omega, u2 _ _ (u1 _ _ f1), u2 _ _ (u1 _ _ f2), u2 _ _ (u1 _ _ f4), ⟨cs, u2 _ _ (u1 _ _ fgo), fg0⟩, a2⟩
  have M3 : IMap ((w2.alloc (.map #[] 0)).alloc (.cells #[.map (some S)] 53)) S [] := ⟨#[], 0, u2 _ _ a1, ents_nil⟩
  clear f1 f2 l2 a1 s1 u1 a2 s2 u2 hvis y5 L1 F1 F2 c2 f4 fgo fg0 ht1 ht2 hpm ht3 ht4 ht5
  go_upto_region 8 with fail
  obtain ⟨t6, ht6⟩ : ∃ t, t = S + 1 := ⟨_, rfl⟩
  rw [← ht6] at C3 ⊢
  clear ht6 hS
  generalize (w2.alloc (.map #[] 0)).alloc (.cells #[.map (some S)] 53) = w3 at C3 M3 ⊢
  have y4 : w3.cell? ⟨t4, 0, none⟩ = some (.slice (some ⟨go, 0, none⟩) 1 co) := cell_of C3.f4
  have CC := Lib.hid C3; have MM := Lib.hid M3
  clear C3 M3
  go_wp2_with fail
  go_loopw [31] (fun i wr => (i = .int .i64 0 ∧ wr = w3) ∨ (i = .int .i64 1 ∧ CI w wr t1 t2 t4 go t6 S g cg co ∧ IMap wr S (nums l))) (fun i _ => 1 - (intOf i).toNat)
  case atStart => exact .inl ⟨rfl, rfl⟩
  case round =>
    rcases hrel with ⟨rfl, rfl⟩ | ⟨rfl, hC, hM⟩
    · obtain ⟨w3, rfl⟩ : ∃ u, u = wr := ⟨_, rfl⟩
      obtain ⟨cs1, ho1, ho0⟩ := CC.out.fgo
      have yo : w3.cell? ⟨go, 0, none⟩ = some (.int .i64 0) := (cell_of ho1).trans ho0
      have y1 : w3.cell? ⟨t1, 0, none⟩ = some (.slice (some ⟨g, 0, none⟩) 1 cg) := cell_of CC.out.f1
      obtain ⟨cs0, r0, r1, r2, r3, r4, r5⟩ := (H.out.low CC.out.lo).row
      have p0 : w3.cell? ⟨g, 0, none⟩ = some (.slice Pp 1 pc) := (cell_of r0).trans r1
      clear ho1 ho0 r0 r1 r2 r3 r4 r5
      go_wp2_with fail
      go_loopw [42] (fun i wr => (i = .int .i64 0 ∧ wr = w3) ∨ (i = .int .i64 1 ∧ CI w wr t1 t2 t4 go t6 S g cg co ∧ IMap wr S (nums []))) (fun i _ => 1 - (intOf i).toNat)
      case atStart => exact .inl ⟨rfl, rfl⟩
      case round =>
        rcases hrel with ⟨rfl, rfl⟩ | ⟨rfl, hC, hM⟩
        · obtain ⟨w3, rfl⟩ : ∃ u, u = wr := ⟨_, rfl⟩
          obtain ⟨gp, cp, rfl, hpc, hgp, hp0⟩ := (H.out.low CC.out.lo).par
          have yp : w3.cell? ⟨gp, 0, none⟩ = some (.int .i64 0) := (cell_of hgp).trans hp0
          have y6 : w3.cell? ⟨t6, 0, none⟩ = some (.map (some S)) := cell_of CC.out.f6
          obtain ⟨hln, es', cl', hup, C4, M4⟩ := CC.out.put MM.out 0
          have hup' : (Instr.mapUpdate 53 (.map (some S)) (.int .i64 0) (.int .i64 0)).run Tryz.prog w3 = .ok () (Go.ChangeMaps.setBlock w3 S (.map es' cl')) := hup
          have hln' : ∀ ty, (Builtin.len_ #[53] ty #[.map (some S)]).run Tryz.prog w3 = .ok (.int .i64 0) w3 := hln
          have C4' := Lib.hid C4
          have M4' : Hid (IMap (Go.ChangeMaps.setBlock w3 S (.map es' cl')) S (nums [])) := Lib.hid M4
          clear hup hln C4 M4 hgp hp0 yo y1 p0
          go_wp2_with fail
          exact ⟨.inr ⟨rfl, C4'.out, M4'.out⟩, by decide⟩
        · obtain ⟨w4, rfl⟩ : ∃ u, u = wr := ⟨_, rfl⟩
          have y1' : w4.cell? ⟨t1, 0, none⟩ = some (.slice (some ⟨g, 0, none⟩) 1 cg) := cell_of hC.f1
          obtain ⟨cs0, r0, r1, r2, r3, r4, r5⟩ := (H.out.low hC.lo).row
          have p1 : w4.cell? ⟨g, 1, none⟩ = some (.slice A n c) := (cell_of r0).trans r2
          have HC := Lib.hid hC; have HM := Lib.hid hM
          clear hC hM r0 r1 r2 r3 r4 r5
          go_wp2_with fail
          go_loopw [58] (fun i wx => ∃ q : Nat, i = .int .i64 q ∧ q ≤ n ∧ CI w wx t1 t2 t4 go t6 S g cg co ∧ IMap wx S (nums (l.take q))) (fun i _ => n - (intOf i).toNat)
          case atStart => exact ⟨0, rfl, by omega, HC.out, HM.out⟩
          case round =>
            obtain ⟨wv, rfl⟩ : ∃ u, u = wr := ⟨_, rfl⟩
            obtain ⟨q, rfl, hq, hC, hM⟩ := hrel
            have hv := H.out.low hC.lo
            clear y1' p1 yo y1 p0
            by_cases hlt : q < n
            · have hlt' : (q : Int) < (n : Int) := by omega
              have hq0 : (0 : Int) ≤ (q : Int) := by omega
              have hqn : (q : Int) ≤ 12 := by omega
              obtain ⟨o, ho⟩ : ∃ o, l[q]? = some o := ⟨_, List.getElem?_eq_getElem (by have := hv.ops.1; omega)⟩
              obtain ⟨ga, cs, rfl, hnc, hg, k0, k1, k2, k3, k4, k5⟩ := hv.ops.2 q o ho
              have c0 : wv.cell? ⟨ga, q * 6, none⟩ = some (.int .i64 o.code) := (cell_of hg).trans k0
              have c1 : wv.cell? ⟨ga, q * 6 + 1, none⟩ = some (.int .i64 o.res) := (cell_of hg).trans k1
              have c2 : wv.cell? ⟨ga, q * 6 + 2, none⟩ = some (.int .i64 0) := (cell_of hg).trans k2
              have c3 : wv.cell? ⟨ga, q * 6 + 3, none⟩ = some (.int .i64 0) := (cell_of hg).trans k3
              have c4 : wv.cell? ⟨ga, q * 6 + 4, none⟩ = some (.int .u16 o.n) := (cell_of hg).trans k4
              have c5 : wv.cell? ⟨ga, q * 6 + 5, none⟩ = some (.slice none 0 0) := (cell_of hg).trans k5
              have okr := (hv.ok o (List.mem_of_getElem? ho)).2.1
              have l9 : Low wv.heap.size wv (wv.alloc (.cells #[.int .i64 o.code, .int .i64 o.res, .int .i64 0, .int .i64 0, .int .u16 o.n, .slice none 0 0] 33)) := (Low.refl _ _).alloc (Nat.le_refl _) _
              have a9 := heap_new wv (.cells #[.int .i64 o.code, .int .i64 o.res, .int .i64 0, .int .i64 0, .int .u16 o.n, .slice none 0 0] 33)
              have C9 := hC.low l9
              have M9 := hM.low l9
              have HO := Lib.hid ho
              clear hC hM hv hg k0 k1 k2 k3 k4 k5 ho l9
              go_upto_region 19 with fail
              clear c0 c1 c2 c3 c4 c5
              generalize wv.heap.size = t13 at a9 ⊢
              generalize wv.alloc (.cells #[.int .i64 o.code, .int .i64 o.res, .int .i64 0, .int .i64 0, .int .u16 o.n, .slice none 0 0] 33) = wa at a9 C9 M9 ⊢
              have x1 : wa.cell? ⟨t13, 1, none⟩ = some (.int .i64 o.res) := cell_of a9
              rcases okr with hneg | hpos
              · have hneg' : ¬ (0 : Int) ≤ o.res := by omega
                have C9' := Lib.hid C9; have M9' := Lib.hid M9
                have HNG := Lib.hid hneg
                clear C9 M9 a9 hneg
                go_wp2_with fail
                exact ⟨⟨q + 1, rfl, hlt, C9'.out, by rw [nums_same HO.out HNG.out]; exact M9'.out⟩, by show n - ((q : Int) + 1).toNat < n - ((q : Int)).toNat; omega⟩
              · have hpos' : (0 : Int) ≤ o.res := by omega
                have y6 : wa.cell? ⟨t6, 0, none⟩ = some (.map (some S)) := cell_of C9.f6
                obtain ⟨hln, es', cl', hup, C4, M4⟩ := C9.put M9 o.res
                have hnx := nums_snoc H.out.inc HO.out hpos
                rw [hnx] at M4
                obtain ⟨k, hk⟩ : ∃ k, (nums (l.take q)).length = k := ⟨_, rfl⟩
                rw [hk] at hln hup
                have C4' := Lib.hid C4; have M4' := Lib.hid M4
                clear C9 M9 a9 hnx hk C4 M4 hpos
                go_wp2_with fail
                exact ⟨⟨q + 1, rfl, hlt, C4'.out, M4'.out⟩, by show n - ((q : Int) + 1).toNat < n - ((q : Int)).toNat; omega⟩
            · have hlt' : ¬ (q : Int) < (n : Int) := by omega
              obtain rfl : q = n := by omega
              have hlen := hv.ops.1
              have HC2 := Lib.hid hC; have HM2 := Lib.hid hM
              clear hC hM hv
              go_wp2_with fail
              exact ⟨.inr ⟨rfl, HC2.out, by have := HM2.out; rw [List.take_of_length_le (by omega)] at this; exact this⟩, by decide⟩
    · obtain ⟨w4, rfl⟩ : ∃ u, u = wr := ⟨_, rfl⟩
      clear y4 CC MM
      have l5 : Low w4.heap.size w4 (w4.alloc (.cells #[.slice none 0 0] 39)) := (Low.refl _ _).alloc (Nat.le_refl _) _
      have a5 := heap_new w4 (.cells #[.slice none 0 0] 39)
      have C5 := hC.low l5; have M5 := hM.low l5
      have hw4 : t2 < w4.heap.size := heap_lt hC.f2
      clear hC hM l5
      go_upto_region 24 with fail
      obtain ⟨t14, ht14⟩ : ∃ t, t = w4.heap.size := ⟨_, rfl⟩
      rw [← ht14] at a5 hw4 ⊢
      generalize w4.alloc (.cells #[.slice none 0 0] 39) = w5 at a5 C5 M5 ⊢
      clear ht14
      have HW14 := Lib.hid hw4
      have y4 : w5.cell? ⟨t4, 0, none⟩ = some (.slice (some ⟨go, 0, none⟩) 1 co) := cell_of C5.f4
      have A5 := Lib.hid a5; have CC := Lib.hid C5; have MM := Lib.hid M5
      clear a5 C5 M5
      go_wp2_with fail
      go_loopw [74] (fun i wr => (i = .int .i64 0 ∧ wr = w5) ∨ (i = .int .i64 1 ∧ Low w.heap.size w wr ∧ wr.heap[t2]? = some (.cells #[.slice none 0 0] 39 (0, 0)) ∧ ∃ g' cr Pp' pc' A' c', wr.heap[t14]? = some (.cells #[.slice (some ⟨g', 0, none⟩) 1 cr] 39 (0, 0)) ∧ 1 ≤ cr ∧ FnAt wr g' Pp' pc' A' n c' none 0 (renum l 1))) (fun i _ => 1 - (intOf i).toNat)
      case atStart => exact .inl ⟨rfl, rfl⟩
      case round =>
        rcases hrel with ⟨rfl, rfl⟩ | ⟨rfl, hL, h2, g', cr, Pp', pc', A', c', h14, hcr, hF⟩
        · obtain ⟨w5, rfl⟩ : ∃ u, u = wr := ⟨_, rfl⟩
          obtain ⟨cs1, ho1, ho0⟩ := CC.out.fgo
          have yo : w5.cell? ⟨go, 0, none⟩ = some (.int .i64 0) := (cell_of ho1).trans ho0
          have y1 : w5.cell? ⟨t1, 0, none⟩ = some (.slice (some ⟨g, 0, none⟩) 1 cg) := cell_of CC.out.f1
          have hF5 := H.out.low CC.out.lo
          obtain ⟨cs0, r0, r1, r2, r3, r4, r5⟩ := hF5.row
          obtain ⟨gp, cp, rfl, hpc, hgp, hp0⟩ := hF5.par
          have p0 : w5.cell? ⟨g, 0, none⟩ = some (.slice (some ⟨gp, 0, none⟩) 1 pc) := (cell_of r0).trans r1
          have p1 : w5.cell? ⟨g, 1, none⟩ = some (.slice A n c) := (cell_of r0).trans r2
          have p2 : w5.cell? ⟨g, 2, none⟩ = some (.int .i64 4) := (cell_of r0).trans r3
          have p3 : w5.cell? ⟨g, 3, none⟩ = some (.int .i64 (-1)) := (cell_of r0).trans r4
          have p4 : w5.cell? ⟨g, 4, none⟩ = some (.slice T 0 tc) := (cell_of r0).trans r5
          have l6 : Low w5.heap.size w5 (w5.alloc (.cells #[.slice (some ⟨gp, 0, none⟩) 1 pc, .slice A n c, .int .i64 4, .int .i64 (-1), .slice T 0 tc] 29)) := (Low.refl _ _).alloc (Nat.le_refl _) _
          have a6 := heap_new w5 (.cells #[.slice (some ⟨gp, 0, none⟩) 1 pc, .slice A n c, .int .i64 4, .int .i64 (-1), .slice T 0 tc] 29)
          have C6 := Lib.hid (CC.out.low l6); have M6 := Lib.hid (MM.out.low l6); have A6 := Lib.hid (l6.some A5.out)
          have P6 := Lib.hid (l6.some hgp); have P60 := Lib.hid hp0
          clear ho1 ho0 hF5 r0 r1 r2 r3 r4 r5 hgp hp0 l6 CC MM A5
          go_upto_region 28 with fail
          clear yo y1 p0 p1 p2 p3 p4 y4
          obtain ⟨t17, ht17⟩ : ∃ t, t = w5.heap.size := ⟨_, rfl⟩
          rw [← ht17] at a6 ⊢
          clear ht17
          generalize w5.alloc (.cells #[.slice (some ⟨gp, 0, none⟩) 1 pc, .slice A n c, .int .i64 4, .int .i64 (-1), .slice T 0 tc] 29) = w6 at a6 C6 M6 A6 P6 ⊢
          have hall : ∀ u, Low w6.heap.size w6 u → Calls Tryz.prog 34 #[.slice (some ⟨gp, 0, none⟩) 1 pc, .func (.func 33) #[] #[.pointer (some ⟨t6, 0, none⟩)]] u (fun e w' => ∃ v, e = .returned v ∧ (Low u.heap.size u w' ∧ ∃ Pp' pc', v = .slice Pp' 1 pc' ∧ ParAt w' Pp' pc')) := fun u hu =>
            (all_one u gp pc t6 S (nums l) ((cell_of (hu.some P6.out)).trans P60.out) (hu.some C6.out.f6) (M6.out.low hu) (nums_zero l)).mono (fun e w' h => ⟨_, h.2.choose_spec.choose_spec.1, h.1, _, _, rfl, h.2.choose_spec.choose_spec.2⟩)
          have A17 := Lib.hid a6
          have HALL := Lib.hid hall
          clear a6 hall
          go_cut [18] (fun v18 wx => ∃ t18 Pp' pc', v18 = .pointer (some ⟨t18, 0, none⟩) ∧ Low w6.heap.size w6 wx ∧ w6.heap.size ≤ t18 ∧ wx.heap[t18]? = some (.cells #[.slice Pp' 1 pc', .slice none 0 0, .int .i64 4, .int .i64 (-1), .slice none 0 0] 29 (0, 0)) ∧ ParAt wx Pp' pc')
          case first =>
            have hS6 : w6.cell? ⟨t17, 0, none⟩ = some (.slice (some ⟨gp, 0, none⟩) 1 pc) ∧ w6.cell? ⟨t17, 2, none⟩ = some (.int .i64 4) ∧ w6.cell? ⟨t17, 3, none⟩ = some (.int .i64 (-1)) := ⟨cell_of A17.out, cell_of A17.out, cell_of A17.out⟩
            refine wp_region_noPanic ?_
            refine wp_region_held_drew (S := fun w' => w'.cell? ⟨t17, 0, none⟩ = some (.slice (some ⟨gp, 0, none⟩) 1 pc) ∧ w'.cell? ⟨t17, 2, none⟩ = some (.int .i64 4) ∧ w'.cell? ⟨t17, 3, none⟩ = some (.int .i64 (-1))) (by kernel_rfl) (by exact hS6) (fun hHeld => ?_)
            refine take_at (i := 0) (v := ?_) rfl (by kernel_rfl) (by kernel_rfl) (by kernel_rfl) (fun _ _ _ h => h) (by rfl) ?_ (by assumption) ?_
            rotate_left
            · intro w' hSw; obtain ⟨s0, s2, s3⟩ := hSw; go_simp; (try with_reducible rfl)
            (try simp only [Act.put, List.setIfInBounds_toArray, List.set_cons_zero, List.set_cons_succ])
            refine take_at (i := 1) (v := ?_) rfl (by kernel_rfl) (by kernel_rfl) (by kernel_rfl) (fun _ _ _ h => h) (by rfl) ?_ (by assumption) ?_
            rotate_left
            · intro w' hSw; obtain ⟨s0, s2, s3⟩ := hSw; go_simp; (try with_reducible rfl)
            (try simp only [Act.put, List.setIfInBounds_toArray, List.set_cons_zero, List.set_cons_succ])
            refine take_at (i := 2) (v := ?_) rfl (by kernel_rfl) (by kernel_rfl) (by kernel_rfl) (fun _ _ _ h => h) (by rfl) ?_ (by assumption) ?_
            rotate_left
            · intro w' hSw; obtain ⟨s0, s2, s3⟩ := hSw; go_simp; (try with_reducible rfl)
            (try simp only [Act.put, List.setIfInBounds_toArray, List.set_cons_zero, List.set_cons_succ])
            refine take_at (i := 4) (v := ?_) rfl (by kernel_rfl) (by kernel_rfl) (by kernel_rfl) (fun _ _ _ h => h) (by rfl) ?_ (by assumption) ?_
            rotate_left
            · intro w' hSw; obtain ⟨s0, s2, s3⟩ := hSw; go_simp; (try with_reducible rfl)
            (try simp only [Act.put, List.setIfInBounds_toArray, List.set_cons_zero, List.set_cons_succ])
            refine take_at (i := 5) (v := ?_) rfl (by kernel_rfl) (by kernel_rfl) (by kernel_rfl) (fun _ _ _ h => h) (by rfl) ?_ (by assumption) ?_
            rotate_left
            · intro w' hSw; obtain ⟨s0, s2, s3⟩ := hSw; go_simp; (try with_reducible rfl)
            (try simp only [Act.put, List.setIfInBounds_toArray, List.set_cons_zero, List.set_cons_succ])
            refine take_at (i := 6) (v := ?_) rfl (by kernel_rfl) (by kernel_rfl) (by kernel_rfl) (fun _ _ _ h => h) (by rfl) ?_ (by assumption) ?_
            rotate_left
            · intro w' hSw; obtain ⟨s0, s2, s3⟩ := hSw; go_simp; (try with_reducible rfl)
            (try simp only [Act.put, List.setIfInBounds_toArray, List.set_cons_zero, List.set_cons_succ])
            refine take_at (i := 7) (v := ?_) rfl (by kernel_rfl) (by kernel_rfl) (by kernel_rfl) (fun _ _ _ h => h) (by rfl) ?_ (by assumption) ?_
            rotate_left
            · intro w' hSw; obtain ⟨s0, s2, s3⟩ := hSw; go_simp; (try with_reducible rfl)
            (try simp only [Act.put, List.setIfInBounds_toArray, List.set_cons_zero, List.set_cons_succ])
            refine take_at (i := 8) (v := ?_) rfl (by kernel_rfl) (by kernel_rfl) (by kernel_rfl) (fun _ _ _ h => h) (by rfl) ?_ (by assumption) ?_
            rotate_left
            · intro w' hSw; obtain ⟨s0, s2, s3⟩ := hSw; go_simp; (try with_reducible rfl)
            (try simp only [Act.put, List.setIfInBounds_toArray, List.set_cons_zero, List.set_cons_succ])
            refine take_at (i := 9) (v := ?_) rfl (by kernel_rfl) (by kernel_rfl) (by kernel_rfl) (fun _ _ _ h => h) (by rfl) ?_ (by assumption) ?_
            rotate_left
            · intro w' hSw; obtain ⟨s0, s2, s3⟩ := hSw; go_simp; (try with_reducible rfl)
            (try simp only [Act.put, List.setIfInBounds_toArray, List.set_cons_zero, List.set_cons_succ])
            refine take_at (i := 10) (v := ?_) rfl (by kernel_rfl) (by kernel_rfl) (by kernel_rfl) (fun _ _ _ h => h) (by rfl) ?_ (by assumption) ?_
            rotate_left
            · intro w' hSw; obtain ⟨s0, s2, s3⟩ := hSw; go_simp; (try with_reducible rfl)
            (try simp only [Act.put, List.setIfInBounds_toArray, List.set_cons_zero, List.set_cons_succ])
            refine wpAnyH_ready (rs := [3, 12]) (by kernel_rfl) (by simp) ?_
            refine next_at (i := 3) rfl (fun KK hKK => ?_) (next_at (i := 12) rfl (fun KK hKK => ?_) AllReadyH.nil)
            · refine step_call rfl 34 #[.slice (some ⟨gp, 0, none⟩) 1 pc, .func (.func 33) #[] #[.pointer (some ⟨t6, 0, none⟩)]] (by go_simp) _ (HALL.out w6.drew (Low.refl _ w6).drew) ?_
              rintro v7 w7 ⟨l7, Pp', pc', rfl, p7⟩
              have l7' : Low w6.heap.size w6 w7 := (Low.refl _ w6).drew.trans l7
              have a7 := l7'.some A17.out
              have hS7 : w7.cell? ⟨t17, 0, none⟩ = some (.slice (some ⟨gp, 0, none⟩) 1 pc) ∧ w7.cell? ⟨t17, 2, none⟩ = some (.int .i64 4) ∧ w7.cell? ⟨t17, 3, none⟩ = some (.int .i64 (-1)) := ⟨cell_of a7, cell_of a7, cell_of a7⟩
              have L7 := Lib.hid l7'; have P7 := Lib.hid p7; have A7 := Lib.hid a7
              clear l7 l7' p7 a7
              refine hKK.out _ _ (by exact hS7) (fun hHeld => ?_)
              clear hKK KK
              (try simp only [Act.put, List.setIfInBounds_toArray, List.set_cons_zero, List.set_cons_succ])
              refine take_at (i := 11) (v := ?_) rfl (by kernel_rfl) (by kernel_rfl) (by kernel_rfl) (fun _ _ _ h => h) (by rfl) ?_ (by assumption) ?_
              rotate_left
              · intro w' hSw; obtain ⟨s0, s2, s3⟩ := hSw; go_simp; (try with_reducible rfl)
              (try simp only [Act.put, List.setIfInBounds_toArray, List.set_cons_zero, List.set_cons_succ])
              refine wpAnyH_ready (rs := [12]) (by kernel_rfl) (by simp) ?_
              refine next_at (i := 12) rfl (fun KK hKK => ?_) AllReadyH.nil
              go_simp
              have l8 : ∀ o, Low w7.heap.size w7 (w7.alloc o) := fun o => (Low.refl _ w7).alloc (Nat.le_refl _) o
              have hS8 : ∀ o, (fun w' : World => w'.cell? ⟨t17, 0, none⟩ = some (.slice (some ⟨gp, 0, none⟩) 1 pc) ∧ w'.cell? ⟨t17, 2, none⟩ = some (.int .i64 4) ∧ w'.cell? ⟨t17, 3, none⟩ = some (.int .i64 (-1))) (w7.alloc o) := fun o => ⟨cell_of ((l8 o).some A7.out), cell_of ((l8 o).some A7.out), cell_of ((l8 o).some A7.out)⟩
              refine hKK.out _ _ (by exact hS8 _) (fun hHeld => ?_)
              clear hKK KK
              (try simp only [Act.put, List.setIfInBounds_toArray, List.set_cons_zero, List.set_cons_succ])
              refine wpAnyH_ready (rs := [13]) (by kernel_rfl) (by simp) ?_
              refine next_at (i := 13) rfl (fun KK hKK => ?_) AllReadyH.nil
              go_simp
              refine hKK.out _ _ (by exact hS8 _) (fun hHeld => ?_)
              clear hKK KK
              (try simp only [Act.put, List.setIfInBounds_toArray, List.set_cons_zero, List.set_cons_succ])
              refine wpAnyH_done (by kernel_rfl) ?_ _
              refine NoPanic.normal ?_
              have l9 := l8 (.cells #[.slice Pp' 1 pc', .slice none 0 0, .int .i64 4, .int .i64 (-1), .slice none 0 0] 29)
              have hs7 := L7.out.size
              (try go_wp2_with fail)
              go_meet
              exact ⟨w7.heap.size, Pp', pc', rfl, L7.out.trans (l9.mono L7.out.size), hs7, heap_new w7 _, P7.out.low l9⟩
            · go_simp
              have lz : Low w6.heap.size w6 (w6.alloc (.cells #[.slice none 0 0, .slice none 0 0, .int .i64 0, .int .i64 0, .slice none 0 0] 29)).drew := ((Low.refl _ w6).alloc (Nat.le_refl _) _).drew
              have az : (w6.alloc (.cells #[.slice none 0 0, .slice none 0 0, .int .i64 0, .int .i64 0, .slice none 0 0] 29)).drew.heap[w6.heap.size]? = some (.cells #[.slice none 0 0, .slice none 0 0, .int .i64 0, .int .i64 0, .slice none 0 0] 29 (0, 0)) := heap_new w6 _
              have a7z := lz.some A17.out
              have hSz : (w6.alloc (.cells #[.slice none 0 0, .slice none 0 0, .int .i64 0, .int .i64 0, .slice none 0 0] 29)).drew.cell? ⟨t17, 0, none⟩ = some (.slice (some ⟨gp, 0, none⟩) 1 pc) ∧ (w6.alloc (.cells #[.slice none 0 0, .slice none 0 0, .int .i64 0, .int .i64 0, .slice none 0 0] 29)).drew.cell? ⟨t17, 2, none⟩ = some (.int .i64 4) ∧ (w6.alloc (.cells #[.slice none 0 0, .slice none 0 0, .int .i64 0, .int .i64 0, .slice none 0 0] 29)).drew.cell? ⟨t17, 3, none⟩ = some (.int .i64 (-1)) := ⟨cell_of a7z, cell_of a7z, cell_of a7z⟩
              refine hKK.out _ _ (by exact hSz) (fun hHeld => ?_)
              clear hKK KK
              (try simp only [Act.put, List.setIfInBounds_toArray, List.set_cons_zero, List.set_cons_succ])
              have LZ := Lib.hid lz; have AZ := Lib.hid az
              clear lz az a7z
              obtain ⟨t18, ht18⟩ : ∃ t, t = w6.heap.size := ⟨_, rfl⟩
              have HT18 := Lib.hid (Nat.le_of_eq ht18.symm)
              rw [← ht18] at AZ ⊢
              clear ht18
              generalize (w6.alloc (.cells #[.slice none 0 0, .slice none 0 0, .int .i64 0, .int .i64 0, .slice none 0 0] 29)).drew = wz at AZ LZ hHeld hSz ⊢
              refine wpAnyH_ready (rs := [3]) (by kernel_rfl) (by simp) ?_
              refine next_at (i := 3) rfl (fun KK hKK => ?_) AllReadyH.nil
              refine step_call rfl 34 #[.slice (some ⟨gp, 0, none⟩) 1 pc, .func (.func 33) #[] #[.pointer (some ⟨t6, 0, none⟩)]] (by go_simp) _ (HALL.out wz LZ.out) ?_
              rintro v7 w7 ⟨l7, Pp', pc', rfl, p7⟩
              have a7 := l7.some (LZ.out.some A17.out)
              have z7 := l7.some AZ.out
              have hS7 : w7.cell? ⟨t17, 0, none⟩ = some (.slice (some ⟨gp, 0, none⟩) 1 pc) ∧ w7.cell? ⟨t17, 2, none⟩ = some (.int .i64 4) ∧ w7.cell? ⟨t17, 3, none⟩ = some (.int .i64 (-1)) := ⟨cell_of a7, cell_of a7, cell_of a7⟩
              have e0 : w7.cell? ⟨t18, 0, none⟩ = some (.slice none 0 0) := cell_of z7
              have e1 : w7.cell? ⟨t18, 1, none⟩ = some (.slice none 0 0) := cell_of z7
              have e2 : w7.cell? ⟨t18, 2, none⟩ = some (.int .i64 0) := cell_of z7
              have e3 : w7.cell? ⟨t18, 3, none⟩ = some (.int .i64 0) := cell_of z7
              have e4 : w7.cell? ⟨t18, 4, none⟩ = some (.slice none 0 0) := cell_of z7
              have f0 : w7.frozen? ⟨t18, 0, none⟩ = false := free_of z7
              have f1 : w7.frozen? ⟨t18, 1, none⟩ = false := free_of z7
              have f2 : w7.frozen? ⟨t18, 2, none⟩ = false := free_of z7
              have f3 : w7.frozen? ⟨t18, 3, none⟩ = false := free_of z7
              have f4 : w7.frozen? ⟨t18, 4, none⟩ = false := free_of z7
              have L7 := Lib.hid (LZ.out.trans (l7.mono LZ.out.size)); have P7 := Lib.hid p7; have A7 := Lib.hid a7; have Z7 := Lib.hid z7
              clear l7 p7 a7 z7 hHeld hSz
              refine hKK.out _ _ (by exact hS7) (fun hHeld => ?_)
              clear hKK KK
              (try simp only [Act.put, List.setIfInBounds_toArray, List.set_cons_zero, List.set_cons_succ])
              refine take_at (i := 11) (v := ?_) rfl (by kernel_rfl) (by kernel_rfl) (by kernel_rfl) (fun _ _ _ h => h) (by rfl) ?_ (by assumption) ?_
              rotate_left
              · intro w' hSw; obtain ⟨s0, s2, s3⟩ := hSw; go_simp; (try with_reducible rfl)
              (try simp only [Act.put, List.setIfInBounds_toArray, List.set_cons_zero, List.set_cons_succ])
              refine wpAnyH_ready (rs := [13]) (by kernel_rfl) (by simp) ?_
              refine next_at (i := 13) rfl (fun KK hKK => ?_) AllReadyH.nil
              go_simp
              obtain ⟨hz1, hz2, hz3⟩ := five_sets (v0 := .slice Pp' 1 pc') (v1 := .slice none 0 0) (v2 := .int .i64 4) (v3 := .int .i64 (-1)) (v4 := .slice none 0 0) Z7.out HT18.out _ rfl
              have ht1718 : t17 ≠ t18 := by
                have := heap_lt A17.out
                have := HT18.out
                omega
              have hpg : ParAt (((((w7.setCell ⟨t18, 0, none⟩ (.slice Pp' 1 pc')).setCell ⟨t18, 1, none⟩ (.slice none 0 0)).setCell ⟨t18, 2, none⟩ (.int .i64 4)).setCell ⟨t18, 3, none⟩ (.int .i64 (-1))).setCell ⟨t18, 4, none⟩ (.slice none 0 0)) Pp' pc' := by
                obtain ⟨gq, cq, e, hq1, hq2, hq3⟩ := P7.out
                refine ⟨gq, cq, e, hq1, (hz3 gq ?_).trans hq2, hq3⟩
                rintro rfl
                have := Z7.out
                rw [hq2] at this; cases this
              generalize World.setCell _ _ _ = w9 at hz1 hz2 hz3 hpg ⊢
              have a9 := (hz3 t17 ht1718).trans A7.out
              have hS9 : w9.cell? ⟨t17, 0, none⟩ = some (.slice (some ⟨gp, 0, none⟩) 1 pc) ∧ w9.cell? ⟨t17, 2, none⟩ = some (.int .i64 4) ∧ w9.cell? ⟨t17, 3, none⟩ = some (.int .i64 (-1)) := ⟨cell_of a9, cell_of a9, cell_of a9⟩
              have L9 := Lib.hid (L7.out.trans hz2); have R9 := Lib.hid hz1; have P9 := Lib.hid hpg
              clear hz1 hz2 hz3 hpg a9 ht1718 e0 e1 e2 e3 e4 f0 f1 f2 f3 f4
              refine hKK.out _ _ (by exact hS9) (fun hHeld => ?_)
              clear hKK KK
              (try simp only [Act.put, List.setIfInBounds_toArray, List.set_cons_zero, List.set_cons_succ])
              refine wpAnyH_done (by kernel_rfl) ?_ _
              refine NoPanic.normal ?_
              (try go_wp2_with fail)
              go_meet
              exact ⟨t18, Pp', pc', rfl, L9.out, HT18.out, R9.out, P9.out⟩
          case rest =>
            obtain ⟨t18, Pp', pc', rfl, hl8, h18, hr8, hp8⟩ := hcut
            obtain ⟨w8, rfl⟩ : ∃ u, u = wc := ⟨_, rfl⟩
            have A17' := Lib.hid (hl8.some A17.out); have C8 := Lib.hid (C6.out.low hl8); have M8 := Lib.hid (M6.out.low hl8); have A8 := Lib.hid (hl8.some A6.out)
            have H18 := Lib.hid hr8; have P8 := Lib.hid hp8
            have y1 : w8.cell? ⟨t17, 1, none⟩ = some (.slice A n c) := cell_of A17'.out
            have h1718 : t17 ≠ t18 := by have := heap_lt A17.out; omega
            have hw18 : w.heap.size ≤ t18 := Nat.le_trans C6.out.lo.size h18
            have h1418 : t14 ≠ t18 := by have := heap_lt A6.out; omega
            clear hl8 hr8 hp8 h18 A17 C6 M6 A6 P6 P60 HALL
            go_wp2_with fail
            go_loopw [98] (fun i wx => ∃ q v, i = .int .i64 ((q : Nat) : Int) ∧ q ≤ n ∧ Chs [t18] w8 wx ∧ wx.heap[t18]? = some (.cells #[.slice Pp' 1 pc', v, .int .i64 4, .int .i64 (-1), .slice none 0 0] 29 (0, 0)) ∧ Own wx w8.heap.size 33 6 v q (rowOf (renum (l.take q) 1))) (fun i _ => n - (intOf i).toNat)
            case atStart => exact ⟨0, _, rfl, by omega, Chs.refl _ _, H18.out, Own.nil _ _ _ _⟩
            case round =>
              obtain ⟨wv, rfl⟩ : ∃ u, u = wr := ⟨_, rfl⟩
              obtain ⟨q, v, rfl, hq, hL, hR, hO⟩ := hrel
              have cv : CI w wv t1 t2 t4 go t6 S g cg co := C8.out.chs hL (by
                intro b hb
                rw [List.mem_singleton] at hb
                subst hb
                exact ⟨hw18, fun cs e fr hb => by rw [H18.out] at hb; cases hb; exact ⟨by decide, by decide, by decide, by decide⟩⟩)
              have mv : IMap wv S (nums l) := M8.out.keep (hL.block S M8.out.lt (by
                intro hm
                rw [List.mem_singleton] at hm
                obtain ⟨es, cl, hg, _⟩ := M8.out
                rw [hm, H18.out] at hg; cases hg))
              have H18s := Lib.hid (heap_lt H18.out)
              have hv := H.out.low cv.lo
              have HL := Lib.hid hL; have HR := Lib.hid hR; have HO := Lib.hid hO; have CV := Lib.hid cv; have MV := Lib.hid mv
              clear hL hR hO cv mv y1
              by_cases hlt : q < n
              · have hlt' : (q : Int) < (n : Int) := by omega
                have hq0 : (0 : Int) ≤ (q : Int) := by omega
                have hqn : (q : Int) ≤ 12 := by omega
                obtain ⟨o, ho⟩ : ∃ o, l[q]? = some o := ⟨_, List.getElem?_eq_getElem (by have := hv.ops.1; omega)⟩
                obtain ⟨ga, cs, rfl, hnc, hg, k0, k1, k2, k3, k4, k5⟩ := hv.ops.2 q o ho
                have c0 : wv.cell? ⟨ga, q * 6, none⟩ = some (.int .i64 o.code) := (cell_of hg).trans k0
                have c1 : wv.cell? ⟨ga, q * 6 + 1, none⟩ = some (.int .i64 o.res) := (cell_of hg).trans k1
                have c2 : wv.cell? ⟨ga, q * 6 + 2, none⟩ = some (.int .i64 0) := (cell_of hg).trans k2
                have c3 : wv.cell? ⟨ga, q * 6 + 3, none⟩ = some (.int .i64 0) := (cell_of hg).trans k3
                have c4 : wv.cell? ⟨ga, q * 6 + 4, none⟩ = some (.int .u16 o.n) := (cell_of hg).trans k4
                have c5 : wv.cell? ⟨ga, q * 6 + 5, none⟩ = some (.slice none 0 0) := (cell_of hg).trans k5
                have hok := hv.ok o (List.mem_of_getElem? ho)
                have okc := hok.1
                have okr := hok.2.1
                have l9 : Low wv.heap.size wv (wv.alloc (.cells #[.int .i64 o.code, .int .i64 o.res, .int .i64 0, .int .i64 0, .int .u16 o.n, .slice none 0 0] 33)) := (Low.refl _ _).alloc (Nat.le_refl _) _
                have a9 := heap_new wv (.cells #[.int .i64 o.code, .int .i64 o.res, .int .i64 0, .int .i64 0, .int .u16 o.n, .slice none 0 0] 33)
                have f6 := l9.some CV.out.f6
                have m9 := MV.out.low l9
                have LA := Lib.hid l9
                have HOO := Lib.hid ho
                clear hv hg k0 k1 k2 k3 k4 k5 ho hok l9
                go_upto_region 32 with fail
                clear c0 c1 c2 c3 c4 c5
                obtain ⟨t20, ht20⟩ : ∃ t, t = wv.heap.size := ⟨_, rfl⟩
                have HT20 := Lib.hid ht20
                rw [← ht20] at a9 ⊢
                clear ht20
                generalize wv.alloc (.cells #[.int .i64 o.code, .int .i64 o.res, .int .i64 0, .int .i64 0, .int .u16 o.n, .slice none 0 0] 33) = wa at a9 f6 m9 LA ⊢
                have x0 : wa.cell? ⟨t20, 0, none⟩ = some (.int .i64 o.code) := cell_of a9
                have x1 : wa.cell? ⟨t20, 1, none⟩ = some (.int .i64 o.res) := cell_of a9
                have x2 : wa.cell? ⟨t20, 2, none⟩ = some (.int .i64 0) := cell_of a9
                have x3 : wa.cell? ⟨t20, 3, none⟩ = some (.int .i64 0) := cell_of a9
                have x4 : wa.cell? ⟨t20, 4, none⟩ = some (.int .u16 o.n) := cell_of a9
                have x5 : wa.cell? ⟨t20, 5, none⟩ = some (.slice none 0 0) := cell_of a9
                have hmap := mapOp_any (fun wx => Low wa.heap.size wa wx) wa o 33 #[] #[.pointer (some ⟨t6, 0, none⟩)] (Inv.low _ _ (Nat.le_refl _)) (Low.refl _ _) okc enters33 (value_keeps wa t6 S (nums l) f6 m9 (nums_zero l))
                have A9 := Lib.hid a9; have F6 := Lib.hid f6; have M9 := Lib.hid m9
                clear a9 f6 m9
                go_upto_region 33 with (first
                  | (go_at_call 35; refine hmap.mono ?_; rintro e w6 ⟨rfl, l6⟩; have a6 := l6.some A9.out; have F66 := Lib.hid (l6.some F6.out); have M66 := Lib.hid (M9.out.low l6); have L6 := Lib.hid l6; have d0 : w6.cell? ⟨t20, 0, none⟩ = some (.int .i64 o.code) := cell_of a6; have d1 : w6.cell? ⟨t20, 1, none⟩ = some (.int .i64 o.res) := cell_of a6; have d2 : w6.cell? ⟨t20, 2, none⟩ = some (.int .i64 0) := cell_of a6; have d3 : w6.cell? ⟨t20, 3, none⟩ = some (.int .i64 0) := cell_of a6; have d4 : w6.cell? ⟨t20, 4, none⟩ = some (.int .u16 o.n) := cell_of a6; have d5 : w6.cell? ⟨t20, 5, none⟩ = some (.slice none 0 0) := cell_of a6; have f0 : w6.frozen? ⟨t20, 0, none⟩ = false := free_of a6; have f1 : w6.frozen? ⟨t20, 1, none⟩ = false := free_of a6; have f2 : w6.frozen? ⟨t20, 2, none⟩ = false := free_of a6; have f3 : w6.frozen? ⟨t20, 3, none⟩ = false := free_of a6; have f4 : w6.frozen? ⟨t20, 4, none⟩ = false := free_of a6; have f5 : w6.frozen? ⟨t20, 5, none⟩ = false := free_of a6; have A66 := Lib.hid a6; clear a6 l6))
                obtain ⟨w7, hw7⟩ : ∃ w7, w7 = (((((w6.setCell ⟨t20, 0, none⟩ (.int .i64 o.code)).setCell ⟨t20, 1, none⟩ (.int .i64 o.res)).setCell ⟨t20, 2, none⟩ (.int .i64 0)).setCell ⟨t20, 3, none⟩ (.int .i64 0)).setCell ⟨t20, 4, none⟩ (.int .u16 o.n)).setCell ⟨t20, 5, none⟩ (.slice none 0 0) := ⟨_, rfl⟩
                have l7 : Low w6.heap.size w6 w7 := six_same (k := 0) A66.out rfl rfl rfl rfl rfl rfl w7 hw7 w6.heap.size
                rw [← hw7]
                clear hw7
                clear d0 d1 d2 d3 d4 d5 f0 f1 f2 f3 f4 f5 x0 x1 x2 x3 x4 x5 hmap
                have a7 := l7.some A66.out
                have L7 := Lib.hid ((LA.out.trans (L6.out.mono LA.out.size)).trans (l7.mono (by have := LA.out.size; have := L6.out.size; omega)))
                have F7 := Lib.hid (l7.some F66.out); have M7 := Lib.hid (M66.out.low l7)
                clear l7
                have x1 : w7.cell? ⟨t20, 1, none⟩ = some (.int .i64 o.res) := cell_of a7
                have hsw := HL.out.size
                rcases okr with hneg | hpos
                · have hneg' : ¬ (0 : Int) ≤ o.res := by omega
                  have HREN : Hid (renum (l.take (q + 1)) 1 = renum (l.take q) 1 ++ [o]) := Lib.hid (by rw [renum_snoc HOO.out, if_neg hneg'])
                  have ZB := Lib.hid a7
                  have LB : Hid (Low w8.heap.size wv w7) := Lib.hid (L7.out.mono hsw)
                  have HOB : Hid (Own w7 w8.heap.size 33 6 v q (rowOf (renum (l.take q) 1))) := Lib.hid (HO.out.low L7.out)
                  clear a7
                  go_upto_region 35 with fail
                  clear x1
                  have hlB : Low w8.heap.size wv w7 := LB.out
                  have hRB : w7.heap[t18]? = some (.cells #[.slice Pp' 1 pc', v, .int .i64 4, .int .i64 (-1), .slice none 0 0] 29 (0, 0)) := hlB.obj H18s.out HR.out
                  have hOB : Own (w7.alloc (.cells #[.int .i64 o.code, .int .i64 o.res, .int .i64 0, .int .i64 0, .int .u16 o.n, .slice none 0 0] 33)) w8.heap.size 33 6 v q (rowOf (renum (l.take q) 1)) := (HOB.out).low ((Low.refl _ w7).alloc (Nat.le_refl _) _)
                  have hsB : w8.heap.size ≤ w7.heap.size := by have := hlB.size; have := HL.out.size; omega
                  have vB : w7.cell? ⟨t18, 1, none⟩ = some v := cell_of hRB
                  have z0 : w7.cell? ⟨t20, 0, none⟩ = some (.int .i64 o.code) := cell_of ZB.out
                  have z1 : w7.cell? ⟨t20, 1, none⟩ = some (.int .i64 o.res) := cell_of ZB.out
                  have z2 : w7.cell? ⟨t20, 2, none⟩ = some (.int .i64 0) := cell_of ZB.out
                  have z3 : w7.cell? ⟨t20, 3, none⟩ = some (.int .i64 0) := cell_of ZB.out
                  have z4 : w7.cell? ⟨t20, 4, none⟩ = some (.int .u16 o.n) := cell_of ZB.out
                  have z5 : w7.cell? ⟨t20, 5, none⟩ = some (.slice none 0 0) := cell_of ZB.out
                  have HRB := Lib.hid hRB; have HOBB := Lib.hid hOB; have HLB := Lib.hid hlB
                  clear hlB hRB hOB
                  go_upto_region 36 with (first
                    | (at_builtin; refine wpList_app1 (w := w7.alloc (.cells #[.int .i64 o.code, .int .i64 o.res, .int .i64 0, .int .i64 0, .int .u16 o.n, .slice none 0 0] 33)) (P := Tryz.prog) (base := w8.heap.size) (n := q) (m := 1) (xs := rowOf (renum (l.take q) 1)) ap27 rfl (.tmp 114) (.tmp 116) rfl rfl HOBB.out rfl (heap_new w7 _) rfl (by simp [Value.oneCell']) (by omega) (by simp; omega) ?_; intro v9 w9 hap; have hl9 : Low w8.heap.size w7 w9 := ((Low.refl w8.heap.size w7).alloc hsB _).trans (hap.low HOBB.out (Nat.le_refl _) (by simp; omega)); have hR9 := hl9.obj H18s.out HRB.out; have x9 : w9.cell? ⟨t18, 1, none⟩ = some v := cell_of hR9; have f9 : w9.frozen? ⟨t18, 1, none⟩ = false := free_of hR9; obtain ⟨g9, cr, cs9, rfl, hSr, hr9, hcr, hown9⟩ := hap.row (k := q + 1) rfl (by omega); have HAP := Lib.hid hown9; have HL9 := Lib.hid hl9; have HR9 := Lib.hid hR9; clear hap hl9 hR9 hr9 hown9 z0 z1 z2 z3 z4 z5 vB))
                  have hOF : Own (w9.setCell ⟨t18, 1, none⟩ (.slice (some ⟨g9, 0, none⟩) (q + 1) cr)) w8.heap.size 33 6 (.slice (some ⟨g9, 0, none⟩) (q + 1) cr) (q + 1) (rowOf (renum (l.take (q + 1)) 1)) := by
                    have h1 := HAP.out
                    rw [HREN.out, rowOf_snoc]
                    refine Own.kept h1 fun k hk => set_other ?_
                    rcases Own.form h1 with ⟨h2, _⟩ | ⟨k', c', cs', h2, hb', _, _⟩
                    · rw [h2] at hk; cases hk
                    · rw [h2] at hk; cases hk
                      have h18 := H18s.out
                      intro he
                      have he' : k' = t18 := he
                      omega
                  have hcF : Chs [t18] w8 (w9.setCell ⟨t18, 1, none⟩ (.slice (some ⟨g9, 0, none⟩) (q + 1) cr)) := ((HL.out.tail HLB.out).tail HL9.out).trans (Chs.setCell _ (List.mem_singleton.2 rfl) _)
                  have hRF := set_blk (i := 1) (v := .slice (some ⟨g9, 0, none⟩) (q + 1) cr) HR9.out
                  have HOF := Lib.hid hOF; have HCF := Lib.hid hcF; have HRF := Lib.hid hRF
                  clear hOF hcF hRF x9 f9
                  go_wp2_with fail
                  exact ⟨⟨q + 1, _, rfl, hlt, HCF.out, HRF.out, HOF.out⟩, by show n - ((q : Int) + 1).toNat < n - ((q : Int)).toNat; omega⟩
                · have hpos' : (0 : Int) ≤ o.res := by omega
                  obtain ⟨k, hk⟩ : ∃ k, ((nums (l.take q)).length : Nat) = k := ⟨_, rfl⟩
                  have HREN : Hid (renum (l.take (q + 1)) 1 = renum (l.take q) 1 ++ [({ o with res := (k : Int) } : Opn)]) := Lib.hid (by rw [renum_snoc HOO.out, if_pos hpos', hk])
                  have hg := nums_get H.out.inc HOO.out hpos
                  rw [hk] at hg
                  have hval := value_any w7 t6 S (nums l) o.res (k : Nat) (cell_of F7.out) M7.out hg
                  have fz : w7.frozen? ⟨t20, 1, none⟩ = false := free_of a7
                  have A7 := Lib.hid a7
                  clear a7 hg hk hpos hsw
                  have hsw := HL.out.size
                  have HSW := Lib.hid hsw
                  clear hsw
                  go_upto_region 35 with (first
                    | (go_at_call 33; with_reducible refine hval.mono ?_; rintro e w7' ⟨rfl, rfl⟩)
                    | (with_reducible refine hval.mono ?_; rintro e w7' ⟨rfl, rfl⟩))
                  have hZ0 := set_blk (i := 1) (v := .int .i64 (k : Nat)) A7.out
                  have hO0 := HO.out.low L7.out
                  have hob0 : Own (w7'.setCell ⟨t20, 1, none⟩ (.int .i64 (k : Nat))) w8.heap.size 33 6 v q (rowOf (renum (l.take q) 1)) := Own.kept hO0 fun kk hkk => set_other (by
                    rcases Own.form HO.out with ⟨h2, _⟩ | ⟨k', c', cs', h2, hb', h3, _⟩
                    · rw [h2] at hkk; cases hkk
                    · rw [h2] at hkk; cases hkk
                      have h20 := HT20.out
                      have hlt3 := heap_lt h3
                      intro he
                      have he' : k' = t20 := he
                      omega)
                  have hlb0 : Low w8.heap.size wv (w7'.setCell ⟨t20, 1, none⟩ (.int .i64 (k : Nat))) := (L7.out.mono HSW.out).setCell (by have := HT20.out; have := HSW.out; omega) _
                  clear fz x1 hO0
                  generalize w7'.setCell ⟨t20, 1, none⟩ (.int .i64 (k : Nat)) = wb at hZ0 hob0 hlb0 ⊢
                  have ZB : Hid (wb.heap[t20]? = some (.cells #[.int .i64 o.code, .int .i64 k, .int .i64 0, .int .i64 0, .int .u16 o.n, .slice none 0 0] 33 (0, 0))) := Lib.hid hZ0
                  have LB := Lib.hid hlb0
                  have HOB := Lib.hid hob0
                  clear hZ0 hlb0 hob0
                  have hlB : Low w8.heap.size wv wb := LB.out
                  have hRB : wb.heap[t18]? = some (.cells #[.slice Pp' 1 pc', v, .int .i64 4, .int .i64 (-1), .slice none 0 0] 29 (0, 0)) := hlB.obj H18s.out HR.out
                  have hOB : Own (wb.alloc (.cells #[.int .i64 o.code, .int .i64 k, .int .i64 0, .int .i64 0, .int .u16 o.n, .slice none 0 0] 33)) w8.heap.size 33 6 v q (rowOf (renum (l.take q) 1)) := (HOB.out).low ((Low.refl _ wb).alloc (Nat.le_refl _) _)
                  have hsB : w8.heap.size ≤ wb.heap.size := by have := hlB.size; have := HL.out.size; omega
                  have vB : wb.cell? ⟨t18, 1, none⟩ = some v := cell_of hRB
                  have z0 : wb.cell? ⟨t20, 0, none⟩ = some (.int .i64 o.code) := cell_of ZB.out
                  have z1 : wb.cell? ⟨t20, 1, none⟩ = some (.int .i64 k) := cell_of ZB.out
                  have z2 : wb.cell? ⟨t20, 2, none⟩ = some (.int .i64 0) := cell_of ZB.out
                  have z3 : wb.cell? ⟨t20, 3, none⟩ = some (.int .i64 0) := cell_of ZB.out
                  have z4 : wb.cell? ⟨t20, 4, none⟩ = some (.int .u16 o.n) := cell_of ZB.out
                  have z5 : wb.cell? ⟨t20, 5, none⟩ = some (.slice none 0 0) := cell_of ZB.out
                  have HRB := Lib.hid hRB; have HOBB := Lib.hid hOB; have HLB := Lib.hid hlB
                  clear hlB hRB hOB
                  go_upto_region 36 with (first
                    | (at_builtin; refine wpList_app1 (w := wb.alloc (.cells #[.int .i64 o.code, .int .i64 k, .int .i64 0, .int .i64 0, .int .u16 o.n, .slice none 0 0] 33)) (P := Tryz.prog) (base := w8.heap.size) (n := q) (m := 1) (xs := rowOf (renum (l.take q) 1)) ap27 rfl (.tmp 114) (.tmp 116) rfl rfl HOBB.out rfl (heap_new wb _) rfl (by simp [Value.oneCell']) (by omega) (by simp; omega) ?_; intro v9 w9 hap; have hl9 : Low w8.heap.size wb w9 := ((Low.refl w8.heap.size wb).alloc hsB _).trans (hap.low HOBB.out (Nat.le_refl _) (by simp; omega)); have hR9 := hl9.obj H18s.out HRB.out; have x9 : w9.cell? ⟨t18, 1, none⟩ = some v := cell_of hR9; have f9 : w9.frozen? ⟨t18, 1, none⟩ = false := free_of hR9; obtain ⟨g9, cr, cs9, rfl, hSr, hr9, hcr, hown9⟩ := hap.row (k := q + 1) rfl (by omega); have HAP := Lib.hid hown9; have HL9 := Lib.hid hl9; have HR9 := Lib.hid hR9; clear hap hl9 hR9 hr9 hown9 z0 z1 z2 z3 z4 z5 vB))
                  have hOF : Own (w9.setCell ⟨t18, 1, none⟩ (.slice (some ⟨g9, 0, none⟩) (q + 1) cr)) w8.heap.size 33 6 (.slice (some ⟨g9, 0, none⟩) (q + 1) cr) (q + 1) (rowOf (renum (l.take (q + 1)) 1)) := by
                    have h1 := HAP.out
                    rw [HREN.out, rowOf_snoc]
                    refine Own.kept h1 fun k hk => set_other ?_
                    rcases Own.form h1 with ⟨h2, _⟩ | ⟨k', c', cs', h2, hb', _, _⟩
                    · rw [h2] at hk; cases hk
                    · rw [h2] at hk; cases hk
                      have h18 := H18s.out
                      intro he
                      have he' : k' = t18 := he
                      omega
                  have hcF : Chs [t18] w8 (w9.setCell ⟨t18, 1, none⟩ (.slice (some ⟨g9, 0, none⟩) (q + 1) cr)) := ((HL.out.tail HLB.out).tail HL9.out).trans (Chs.setCell _ (List.mem_singleton.2 rfl) _)
                  have hRF := set_blk (i := 1) (v := .slice (some ⟨g9, 0, none⟩) (q + 1) cr) HR9.out
                  have HOF := Lib.hid hOF; have HCF := Lib.hid hcF; have HRF := Lib.hid hRF
                  clear hOF hcF hRF x9 f9
                  go_wp2_with fail
                  exact ⟨⟨q + 1, _, rfl, hlt, HCF.out, HRF.out, HOF.out⟩, by show n - ((q : Int) + 1).toNat < n - ((q : Int)).toNat; omega⟩
              · have hlt' : ¬ (q : Int) < (n : Int) := by omega
                obtain rfl : q = n := by omega
                have hlen := hv.ops.1
                have hO' : Own wv w8.heap.size 33 6 v q (rowOf (renum l 1)) := by
                  have := HO.out
                  rw [List.take_of_length_le (by omega)] at this
                  exact this
                obtain ⟨A2, c2, rfl, hops⟩ := OpsAt.of_own hO'
                have hok2 := renum_ok (Nat.le_refl 1) hv.ok
                have a17v := HL.out.obj A17'.out (by rw [List.mem_singleton]; exact h1718)
                have a14v := HL.out.obj A8.out (by rw [List.mem_singleton]; exact h1418)
                have p18v : ParAt wv Pp' pc' := P8.out.chs HL.out (fun b hb cs' hg' => by
                  rw [List.mem_singleton] at hb
                  subst hb
                  rw [H18.out] at hg'; cases hg')
                have y2 : wv.cell? ⟨t17, 2, none⟩ = some (.int .i64 4) := cell_of a17v
                have y3 : wv.cell? ⟨t17, 3, none⟩ = some (.int .i64 (-1)) := cell_of a17v
                have y4 : wv.cell? ⟨t17, 4, none⟩ = some (.slice T 0 tc) := cell_of a17v
                have hrd := reads_any wv (.slice T 0 tc)
                have A14 := Lib.hid a14v; have A17v := Lib.hid a17v; have P18 := Lib.hid p18v; have OPS := Lib.hid hops; have OK2 := Lib.hid hok2
                clear hv hO' hops hok2 a17v a14v p18v
                go_upto_region 39 with (first
                  | (go_at_call 36; with_reducible refine hrd.mono ?_; rintro e w9 ⟨rfl, l9⟩))
                have A149 := Lib.hid (l9.some A14.out); have P189 := Lib.hid (P18.out.low l9); have OPS9 := Lib.hid (OPS.out.low l9); have C9 := Lib.hid (CV.out.low l9); have R9 := Lib.hid (l9.some HR.out)
                have z4 : w9.cell? ⟨t17, 4, none⟩ = some (.slice T 0 tc) := cell_of (l9.some A17v.out)
                clear l9 y2 y3 y4 hrd A14 A17v P18 OPS CV HR MV HL HO
                go_wp2_with fail
                go_loopw [134] (fun i wr => i = .int .i64 0 ∧ wr = w9) (fun _ _ => 0)
                case atStart => exact ⟨rfl, rfl⟩
                case round =>
                  obtain ⟨rfl, rfl⟩ := hrel
                  obtain ⟨w9, rfl⟩ : ∃ u, u = wr := ⟨_, rfl⟩
                  clear z4
                  have z0 : w9.cell? ⟨t18, 0, none⟩ = some (.slice Pp' 1 pc') := cell_of R9.out
                  have z1 : w9.cell? ⟨t18, 1, none⟩ = some (.slice A2 q c2) := cell_of R9.out
                  have z2 : w9.cell? ⟨t18, 2, none⟩ = some (.int .i64 4) := cell_of R9.out
                  have z3 : w9.cell? ⟨t18, 3, none⟩ = some (.int .i64 (-1)) := cell_of R9.out
                  have z4 : w9.cell? ⟨t18, 4, none⟩ = some (.slice none 0 0) := cell_of R9.out
                  have z14 : w9.cell? ⟨t14, 0, none⟩ = some (.slice none 0 0) := cell_of A149.out
                  go_upto_region 45 with (first
                    | (at_builtin; refine wpList_app1 (w := w9.alloc (.cells #[.slice Pp' 1 pc', .slice A2 q c2, .int .i64 4, .int .i64 (-1), .slice none 0 0] 29)) (P := Tryz.prog) (base := w9.heap.size) (n := 0) (m := 1) (xs := []) ap37 rfl (.tmp 156) (.tmp 158) rfl rfl (show Own _ w9.heap.size 29 5 (Value.slice none 0 0) 0 [] from Own.nil _ _ _ _) rfl (heap_new w9 _) rfl (by simp [Value.oneCell']) (by omega) (by simp) ?_; intro v10 w10 happ0; have happ : App1 (w9.alloc (.cells #[.slice Pp' 1 pc', .slice A2 q c2, .int .i64 4, .int .i64 (-1), .slice none 0 0] 29)) w10 w9.heap.size 29 5 (.slice none 0 0) v10 0 [] 1 [.slice Pp' 1 pc', .slice A2 q c2, .int .i64 4, .int .i64 (-1), .slice none 0 0] := happ0; clear happ0; obtain ⟨g0, cg0, cs, rfl, hSr, hr, hcg, hown⟩ := happ.row (k := 1) rfl (by decide); have l10 : Low w9.heap.size w9 w10 := ((Low.refl w9.heap.size w9).alloc (Nat.le_refl _) _).trans (happ.low (Own.nil _ _ _ _) (Nat.le_refl _) (by simp)); have o10 := l10.some A149.out; have f10 : w10.frozen? ⟨t14, 0, none⟩ = false := free_of o10; have HOWN := Lib.hid hown; have HR10 := Lib.hid hr; have L10 := Lib.hid l10; have O10 := Lib.hid o10; have x10 : w10.cell? ⟨t14, 0, none⟩ = some (.slice none 0 0) := cell_of o10; clear happ hown hr l10 o10 z0 z1 z2 z3 z4 z14))
                  have ht14s := heap_lt A149.out
                  have hgt : g0 ≠ t14 := by omega
                  have cZ : Chs [t14] w10 (w10.setCell ⟨t14, 0, none⟩ (.slice (some ⟨g0, 0, none⟩) 1 cg0)) := Chs.setCell _ (List.mem_singleton.2 rfl) _
                  have hno : ∀ {b : Nat} {cs : Array Value} {e : TypeId} {fr : Nat × Nat}, w10.heap[b]? = some (.cells cs e fr) → e ≠ 39 → b ∉ [t14] := fun {b cs e fr} hb he hm => by
                    rw [List.mem_singleton] at hm
                    subst hm
                    rw [O10.out] at hb
                    cases hb
                    exact he rfl
                  have ht2 : t2 ≠ t14 := by have := HT.out.2.1; have := HT.out.1; have := HW14.out; omega
                  have hlF : Low w.heap.size w (w10.setCell ⟨t14, 0, none⟩ (.slice (some ⟨g0, 0, none⟩) 1 cg0)) := (C9.out.lo.trans (L10.out.mono C9.out.lo.size)).setCell (by have := HW14.out; have := HT.out.1; have := HT.out.2.1; omega) _
                  have h2F := (set_other (i := 0) (v := .slice (some ⟨g0, 0, none⟩) 1 cg0) ht2).trans (L10.out.some C9.out.f2)
                  have h14F := set_blk (i := 0) (v := .slice (some ⟨g0, 0, none⟩) 1 cg0) O10.out
                  have hFF : FnAt (w10.setCell ⟨t14, 0, none⟩ (.slice (some ⟨g0, 0, none⟩) 1 cg0)) g0 Pp' pc' A2 q c2 none 0 (renum l 1) := ⟨⟨cs, (set_other hgt).trans HR10.out, (cell_of HR10.out).symm.trans (HOWN.out.cell rfl), (cell_of HR10.out).symm.trans (HOWN.out.cell rfl), (cell_of HR10.out).symm.trans (HOWN.out.cell rfl), (cell_of HR10.out).symm.trans (HOWN.out.cell rfl), (cell_of HR10.out).symm.trans (HOWN.out.cell rfl)⟩, (OPS9.out.low L10.out).chs cZ (fun b cs hb => hno hb (by decide)), (P189.out.low L10.out).chs cZ (fun b hb cs hb2 => hno hb2 (by decide) hb), OK2.out, hn12, renum_inc⟩
                  have HLF := Lib.hid hlF; have H2F := Lib.hid h2F; have H14F := Lib.hid h14F; have HFF := Lib.hid hFF
                  clear cZ hno ht2 hlF h2F h14F hFF ht14s hgt x10 f10
                  go_wp2_with fail
                  exact ⟨.inr ⟨rfl, HLF.out, H2F.out, g0, cg0, Pp', pc', A2, c2, H14F.out, hcg, HFF.out⟩, by decide⟩
        · obtain ⟨wr, rfl⟩ : ∃ u, u = wr := ⟨_, rfl⟩
          have y14 : wr.cell? ⟨t14, 0, none⟩ = some (.slice (some ⟨g', 0, none⟩) 1 cr) := cell_of h14
          have y2 : wr.cell? ⟨t2, 0, none⟩ = some (.slice none 0 0) := cell_of h2
          have f2 : wr.frozen? ⟨t2, 0, none⟩ = false := free_of h2
          have hfin : Low w.heap.size w (wr.setCell ⟨t2, 0, none⟩ (.slice (some ⟨g', 0, none⟩) 1 cr)) ∧ FnAt (wr.setCell ⟨t2, 0, none⟩ (.slice (some ⟨g', 0, none⟩) 1 cr)) g' Pp' pc' A' n c' none 0 (renum l 1) := by
            have cZ : Chs [t2] wr (wr.setCell ⟨t2, 0, none⟩ (.slice (some ⟨g', 0, none⟩) 1 cr)) := Chs.setCell _ (List.mem_singleton.2 rfl) _
            have hno : ∀ {b : Nat} {cs : Array Value} {e : TypeId} {fr : Nat × Nat}, wr.heap[b]? = some (.cells cs e fr) → e ≠ 39 → b ∉ [t2] := fun {b cs e fr} hb he hm => by
              rw [List.mem_singleton] at hm
              subst hm
              rw [h2] at hb
              cases hb
              exact he rfl
            obtain ⟨cs3, r0, r1⟩ := hF.row
            exact ⟨hL.setCell (by have := HT.out.2.1; have := HT.out.1; omega) _, ⟨cs3, cZ.obj r0 (hno r0 (by decide)), r1⟩, hF.ops.chs cZ (fun b cs hb => hno hb (by decide)), hF.par.chs cZ (fun b hb cs hb2 => hno hb2 (by decide) hb), hF.ok, hF.small, hF.inc⟩
          have HFIN := Lib.hid hfin; have H2 := Lib.hid h2
          clear hfin hL h2 h14 hF
          go_wp2_with fail
          have e2' : (wr.setCell ⟨t2, 0, none⟩ (.slice (some ⟨g', 0, none⟩) 1 cr)).cell? ⟨t2, 0, none⟩ = some (.slice (some ⟨g', 0, none⟩) 1 cr) := cell_of (set_blk H2.out)
          exact bodyPost_ret (v := .agg #[.slice (some ⟨g', 0, none⟩) 1 cr]) (by simp [results, Tryz.results13, go_sem, e2']; done) rfl ⟨HFIN.out.1, g', cr, Pp', pc', A', c', rfl, hcr, HFIN.out.2⟩
end Go.Proofs.YtnjdegjpmbdboaaGreat
