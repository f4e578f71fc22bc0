/- The instruction reader. -/
import Derived.Test.YtjkaoejcdboaiaaGreatT2
import Derived.Laws.BitsAllLaws
import Derived.Test.YtjkaoejcdboaiaaGreatL4
import Derived.Laws.EntriesVeiled
set_option linter.unusedSimpArgs false
set_option linter.unusedVariables false
set_option linter.unusedSectionVars false
/- The instruction reader's closures. -/
namespace Go.Proofs.YtjkaoejcdboaiaaGreat
open Go.RowKit Go.Eng
set_option linter.unusedVariables false
set_option linter.unusedSectionVars false
set_option maxRecDepth 100000
/-- One block alone is turned. -/
structure Turned (g : Nat) (w w' : World) : Prop where
  os : w'.os = w.os
  out : w'.output = w.output
  size : w'.heap.size = w.heap.size
  block : ∀ q, q ≠ g → w'.heap[q]? = w.heap[q]?
theorem Turned.trans {g : Nat} {a b c : World} (h : Turned g a b) (h' : Turned g b c) : Turned g a c := ⟨h'.os.trans h.os, h'.out.trans h.out, h'.size.trans h.size, fun q hq => (h'.block q hq).trans (h.block q hq)⟩
theorem Turned.cell {g : Nat} {w w' : World} (h : Turned g w w') {a : Addr} (ha : a.block ≠ g) {v : Value} (hv : w.cell? a = some v) : w'.cell? a = some v :=
  (World.cell?_of_block (h.block _ ha)).trans hv
theorem Turned.low {g S : Nat} {w w' : World} (h : Turned g w w') (hg : S ≤ g) : Low S w w' := ⟨h.os, h.out, by rw [h.size]; exact Nat.le_refl _, fun q hq => h.block q (by omega)⟩
theorem next_any (w : World) (t6 t2 k : Nat) (s : ByteArray) (b : Nat) (hk : k < 1000) (h6 : w.heap[t6]? = some (.cells #[.int .i64 k] 3 (0, 0))) (h2 : w.cell? ⟨t2, 0, none⟩ = some (.string s)) (hlt : k < s.size) (hb : s[k].toNat = b) (hne : t6 ≠ t2) :
    Calls Tryz.prog 93 #[.pointer (some ⟨t6, 0, none⟩), .pointer (some ⟨t2, 0, none⟩)] w (fun e w' => e = .returned (.int .u8 b) ∧ w'.heap[t6]? = some (.cells #[.int .i64 (k + 1)] 3 (0, 0)) ∧ Turned t6 w w') := by
  have c6 : w.cell? ⟨t6, 0, none⟩ = some (.int .i64 k) := cell_of h6
  have f6 : w.frozen? ⟨t6, 0, none⟩ = false := free_of h6
  have hw : IntKind.i64.wrap ((k : Int) + 1) = k + 1 := Go.IntWalk.i64_in _ (by omega)
  have hw2 : IntKind.i64.wrap ((k : Int) + 1 - 1) = k := by rw [Int.add_sub_cancel]; exact Go.IntWalk.i64_in _ (by omega)
  have h6' := set_blk (i := 0) (v := .int .i64 (k + 1)) h6
  have c6' : (w.setCell ⟨t6, 0, none⟩ (.int .i64 (k + 1))).cell? ⟨t6, 0, none⟩ = some (.int .i64 (k + 1)) := cell_of h6'
  have c2' : (w.setCell ⟨t6, 0, none⟩ (.int .i64 (k + 1))).cell? ⟨t2, 0, none⟩ = some (.string s) := (World.cell?_of_block (a := ⟨t2, 0, none⟩) (set_other (fun h => hne h.symm))).trans h2
  go_enter Tryz.func93, Tryz.ntmps93
  go_wp2
  go_ret
  exact ⟨rfl, h6', ⟨rfl, rfl, set_size _ _ _, fun q hq => set_other hq⟩⟩
theorem or_word (a b : Nat) (ha : a < 256) (hb : b < 256) : bits BinOp.or IntKind.u16 (a : Int) ((b : Int) * 256) = a + 256 * b := by
  have h := u16_or_nat a (b * 256) (by omega) (by omega)
  rw [show ((b : Int) * 256) = ((b * 256 : Nat) : Int) by simp, h]
  have h2 : 2 ^ 8 * b + a = 2 ^ 8 * b ||| a := Nat.two_pow_add_eq_or_of_lt (i := 8) (by simpa using ha) b
  have h3 : a ||| b * 256 = 256 * b + a := by
    rw [Nat.or_comm, Nat.mul_comm]; exact h2.symm
  rw [h3]; omega
theorem word_any (w : World) (t7 t6 t2 k : Nat) (s : ByteArray) (a b : Nat) (hk : k < 900) (h7 : w.heap[t7]? = some (.cells #[.func (.func 93) #[] #[.pointer (some ⟨t6, 0, none⟩), .pointer (some ⟨t2, 0, none⟩)]] 208 (0, 0))) (h6 : w.heap[t6]? = some (.cells #[.int .i64 k] 3 (0, 0))) (h2 : w.cell? ⟨t2, 0, none⟩ = some (.string s)) (hlt : k + 1 < s.size)
    (ha : s[k].toNat = a) (hb : s[k + 1].toNat = b) (ha0 : a < 256) (hb0 : b < 256) (hne : t6 ≠ t2) (h67 : t7 ≠ t6) :
    Calls Tryz.prog 94 #[.pointer (some ⟨t7, 0, none⟩)] w (fun e w' => e = .returned (.int .u16 (a + 256 * b)) ∧ w'.heap[t6]? = some (.cells #[.int .i64 (k + 2)] 3 (0, 0)) ∧ Turned t6 w w') := by
  have c7 : w.cell? ⟨t7, 0, none⟩ = some (.func (.func 93) #[] #[.pointer (some ⟨t6, 0, none⟩), .pointer (some ⟨t2, 0, none⟩)]) := cell_of h7
  have n1 := next_any w t6 t2 k s a (by omega) h6 h2 (by omega) ha hne
  have H7 := Lib.hid h7; have H2 := Lib.hid h2
  clear h6 h2 h7
  go_enter Tryz.func94, Tryz.ntmps94
  go_upto_region 2 with (first
    | (go_at_call 93; refine n1.mono ?_; rintro e w2 ⟨rfl, h6, hT⟩))
  clear c7 n1
  have n2 := next_any w2 t6 t2 (k + 1) s b (by omega) h6 (hT.cell (fun h => hne h.symm) H2.out) hlt hb hne
  have c7 : w2.cell? ⟨t7, 0, none⟩ = some (.func (.func 93) #[] #[.pointer (some ⟨t6, 0, none⟩), .pointer (some ⟨t2, 0, none⟩)]) := hT.cell h67 (cell_of H7.out)
  have HT := Lib.hid hT
  clear h6 hT
  go_wp2_with (first
    | (go_at_call 93; refine n2.mono ?_; rintro e w3 ⟨rfl, h6, hT⟩))
  go_ret
  rw [or_word a b ha0 hb0]
  refine ⟨rfl, ?_, HT.out.trans hT⟩
  rw [h6]
  have : (((k + 1 : Nat) : Int) + 1) = (k : Int) + 2 := by omega
  rw [this]
end Go.Proofs.YtjkaoejcdboaiaaGreat
namespace Go.Proofs.YtjkaoejcdboaiaaGreat
open Go.RowKit Go.Eng
set_option linter.unusedVariables false
set_option linter.unusedSectionVars false
set_option maxRecDepth 100000

theorem alloc_at {w : World} {n : Nat} (o : Obj) (h : w.heap.size = n) : (w.alloc o).heap[n]? = some o ∧ (w.alloc o).heap.size = n + 1 ∧ ∀ (g : Nat) (ob : Obj), w.heap[g]? = some ob → (w.alloc o).heap[g]? = some ob := by
  subst h
  exact ⟨heap_new w o, by simp, fun g ob hh => heap_old o hh⟩
/-- The reader's state: the instruction so far, and how far it has read. -/
def RdSt (t5 t6 t7 t2 : Nat) (w1 : World) (n d e imm size : Int) (k : Nat) (wr : World) : Prop :=
  Low w1.heap.size w1 wr ∧ wr.heap[t5]? = some (insC n d e imm 0 0 size) ∧ wr.heap[t6]? = some (.cells #[.int .i64 k] 3 (0, 0)) ∧ wr.heap[t7]? = some (.cells #[.func (.func 93) #[] #[.pointer (some ⟨t6, 0, none⟩), .pointer (some ⟨t2, 0, none⟩)]] 208 (0, 0))
theorem Turned.set (w : World) (g i : Nat) (v : Value) : Turned g w (w.setCell ⟨g, i, none⟩ v) := ⟨rfl, rfl, set_size _ _ _, fun q hq => set_other hq⟩
theorem low_half (d e : Nat) (hd : d < 8) (he : e < 8) : bits BinOp.and IntKind.u8 (16 * (d : Int) + e) 15 = e := by
  have h := u8_and_nat (16 * d + e) 15 (by omega) (by omega)
  have h2 : (16 * d + e) &&& 15 = e := by
    have := Nat.and_two_pow_sub_one_eq_mod (16 * d + e) 4
    rw [show (2 ^ 4 - 1) = 15 by rfl, show 2 ^ 4 = 16 by rfl] at this
    rw [this]; omega
  rw [h2] at h
  exact h
theorem index_0 (a b c d : Value) (w : World) : (Instr.index 176 (.agg #[a, b, c, d]) (.int .i64 0)).run Tryz.prog w = .ok a w := by kernel_rfl
theorem index_1 (a b c d : Value) (w : World) : (Instr.index 176 (.agg #[a, b, c, d]) (.int .i64 1)).run Tryz.prog w = .ok b w := by kernel_rfl
theorem index_2 (a b c d : Value) (w : World) : (Instr.index 176 (.agg #[a, b, c, d]) (.int .i64 2)).run Tryz.prog w = .ok c w := by kernel_rfl
theorem index_3 (a b c d : Value) (w : World) : (Instr.index 176 (.agg #[a, b, c, d]) (.int .i64 3)).run Tryz.prog w = .ok d w := by kernel_rfl
theorem size_low {op : Nat} (hop : op < 256) (w : World) : Calls Tryz.prog 76 #[.int .u8 op] w (fun e w' => e = .returned (.int .i64 (sizeP op)) ∧ Low w.heap.size w w') :=
  (size_any hop w).mono fun _ _ h => ⟨h.1, h.2.lo⟩
end Go.Proofs.YtjkaoejcdboaiaaGreat
