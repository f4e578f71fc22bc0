/- What formatOf comes to: runs; the hooks with it. -/
import Derived.Test.YtlfmgfgcaepmjaaGreatA1
set_option linter.unusedSimpArgs false
set_option linter.unusedVariables false
set_option linter.unusedSectionVars false
namespace Go.Proofs.YtlfmgfgcaepmjaaGreat
open Go.RowKit Go.Eng
set_option linter.unusedVariables false
set_option linter.unusedSectionVars false
set_option maxRecDepth 100000
def fmt0 : Memo := ⟨[.int .i64 1],
  [],
  .tup [.agg [.int .i64 0, .int .i64 0, .int .i64 0, .int .i64 0], .bool true],
  [],
  [[]]⟩
def fmt1 : Memo := ⟨[.int .i64 (144)],
  [],
  .tup [.agg [.int .i64 (2), .int .i64 (4), .int .i64 0, .int .i64 0], .bool true],
  [],
  [[]]⟩
def fmt2 : Memo := ⟨[.int .i64 (145)],
  [],
  .tup [.agg [.int .i64 (2), .int .i64 (4), .int .i64 0, .int .i64 0], .bool true],
  [],
  [[]]⟩
def fmt3 : Memo := ⟨[.int .i64 (32)],
  [],
  .tup [.agg [.int .i64 1, .int .i64 0, .int .i64 0, .int .i64 0], .bool true],
  [],
  [[]]⟩
def fmt4 : Memo := ⟨[.int .i64 (33)],
  [],
  .tup [.agg [.int .i64 1, .int .i64 0, .int .i64 0, .int .i64 0], .bool true],
  [],
  [[]]⟩
def fmt5 : Memo := ⟨[.int .i64 (48)],
  [],
  .tup [.agg [.int .i64 (2), .int .i64 (5), .int .i64 0, .int .i64 0], .bool true],
  [],
  [[]]⟩
theorem fmt0_run : @Memo.runs s0 hk Tryz.prog 100000 382 fmt0 = true := by decide +kernel
theorem fmt1_run : @Memo.runs s0 hk Tryz.prog 100000 382 fmt1 = true := by decide +kernel
theorem fmt2_run : @Memo.runs s0 hk Tryz.prog 100000 382 fmt2 = true := by decide +kernel
theorem fmt3_run : @Memo.runs s0 hk Tryz.prog 100000 382 fmt3 = true := by decide +kernel
theorem fmt4_run : @Memo.runs s0 hk Tryz.prog 100000 382 fmt4 = true := by decide +kernel
theorem fmt5_run : @Memo.runs s0 hk Tryz.prog 100000 382 fmt5 = true := by decide +kernel
theorem callable382 : Callable Tryz.prog 382 := ⟨Tryz.f382, _, Tryz.func382, rfl, by kernel_rfl⟩
noncomputable def hkG (f : FuncId) : Option Hook :=
  match f with
  | 382 => some (hookMemo [fmt0, fmt1, fmt2, fmt3, fmt4, fmt5])
  | f => hkF f
@[reducible] noncomputable def hk1 : Hooks := { hk := hkG }
theorem fmt_ok [Hooks] : @HookOK s0 Tryz.prog 382 (hookMemo [fmt0, fmt1, fmt2, fmt3, fmt4, fmt5]) := by
  refine @hookMemo_ok s0 Tryz.prog _ 382 _ follows callable382 hk (hk_ok s0) 100000 fun M hM => ?_
  simp only [List.mem_cons, List.not_mem_nil, or_false] at hM
  rcases hM with rfl | rfl | rfl | rfl | rfl | rfl
  · exact fmt0_run
  · exact fmt1_run
  · exact fmt2_run
  · exact fmt3_run
  · exact fmt4_run
  · exact fmt5_run
theorem hk1_ok : @HooksOK s0 hk1 Tryz.prog := by
  letI := s0
  letI := hk1
  refine ⟨fun f h hf => ?_⟩
  have hf : hkG f = some h := hf
  unfold hkG at hf
  split at hf
  · cases hf
    exact fmt_ok
  · unfold hkF at hf
    split at hf <;> cases hf
    · exact hookCaught_ok
    · exact hookOps_ok
    · exact hookCheck_ok
end Go.Proofs.YtlfmgfgcaepmjaaGreat
