/- Calls of Compile and of the machine: what they come to; the hooks of their runs. -/
import Derived.Test.YtlfmgfgcaepmjaaGreatA5
import Derived.Test.YtlfmgfgcaepmjaaGreatB4
import Derived.Test.YtlfmgfgcaepmjaaGreatB5
set_option linter.unusedSimpArgs false
set_option linter.unusedVariables false
set_option linter.unusedSectionVars false
namespace Go.Proofs.YtlfmgfgcaepmjaaGreat
open Go.RowKit Go.Eng
set_option linter.unusedVariables false
set_option linter.unusedSectionVars false
set_option maxRecDepth 100000
def compile0 : Memo := ⟨[.agg [.nils, .nils, .slice 0 0 0 1 1 false 10], .agg [.int .u32 0, .bool false, .int .u32 0, .int .u32 0, .bool false, .nils]],
  [(74, [.str [109, 97, 105, 110], .nils, .int .i64 (7), .str [], .int .i64 0, .nils, .slice 1 0 0 1 1 false 11, .bool false, .int .i64 0, .int .u16 0]), (199, [.int .i64 (11), .str [], .int .i64 0, .str [], .int .i64 0, .nils, .int .u16 1, .slice 2 0 0 1 1 true 4, .nils, .nils, .nils]), (110, [.int .i64 (13), .str [43], .int .u16 0, .slice 3 0 0 2 2 true 4]), (110, [.int .i64 (11), .str [], .int .u16 (2), .nils, .int .i64 1, .str [], .int .u16 1, .nils])],
  .tup [.agg [.slice 0 0 0 1 1 false 1, .int .u16 (4), .int .u16 0, .nils, .nils], .slice 1 0 0 1 1 false 4, .int .i64 0],
  [(9, [.str ([0, 0, 0, 0, 48, 0, 1, 32, 16, 144, 0, 2, 32, 32, 32, 2, 33, 1, 32, 16, 145, 1, 1, 48, 0, 0, 1] ++ List.replicate 4069 0)]), (49, [.str [109, 97, 105, 110], .int .i64 0, .int .u16 (4), .int .i64 (23)])],
  [[(1121, 0), (1122, 0)]]⟩
def compile1 : Memo := ⟨[.agg [.nils, .nils, .slice 0 0 0 2 2 false 10], .agg [.int .u32 0, .bool false, .int .u32 0, .int .u32 0, .bool false, .nils]],
  [(74, [.str [101], .nils, .int .i64 (7), .str [], .int .i64 0, .nils, .nils, .bool true, .int .i64 0, .int .u16 (256), .str [109, 97, 105, 110], .nils, .int .i64 (7), .str [], .int .i64 0, .nils, .nils, .bool false, .int .i64 0, .int .u16 0])],
  .tup [.agg [.nils, .int .u16 0, .int .u16 0, .nils, .nils], .nils, .int .i64 (46)],
  [],
  [[]]⟩
def run0 : Memo := ⟨[.agg [.slice 0 0 0 1 1 false 1, .int .u16 (4), .int .u16 0, .nils, .nils], .agg [.slice 1 0 0 1 1 true 1, .nils], .int .i64 (4000)],
  [(9, [.str ([0, 0, 0, 0, 48, 0, 1, 32, 16, 144, 0, 2, 32, 32, 32, 2, 33, 1, 32, 16, 145, 1, 1, 48, 0, 0, 1] ++ List.replicate 4069 0)]), (31, [.int .u16 (4)])],
  .agg [.int .u16 0, .slice 0 0 0 1 1 false 2, .int .i64 (6), .int .u16 0, .str (List.replicate 8192 0), .int .i64 1, .int .i64 0],
  [(62, [.int .u16 1, .int .u16 (5)])],
  [[(200, 0)]]⟩
theorem callable6 : Callable Tryz.prog 6 := ⟨Tryz.f6, _, Tryz.func6, rfl, by kernel_rfl⟩
theorem callable9 : Callable Tryz.prog 9 := ⟨Tryz.f9, _, Tryz.func9, rfl, by kernel_rfl⟩
noncomputable def hkC (f : FuncId) : Option Hook :=
  match f with
  | 16 => some (hookMemo [gen0])
  | 18 => some (hookMemo [link0])
  | f => hkG f
@[reducible] noncomputable def hk4 : Hooks := { hk := hkC }
theorem hk4_ok : @HooksOK s0 hk4 Tryz.prog := by
  letI := s0
  letI := hk4
  refine ⟨fun f h hf => ?_⟩
  have hf : hkC f = some h := hf
  unfold hkC at hf
  split at hf
  · cases hf
    refine hookMemo_ok (kk := hk) follows callable16 (hk_ok s0) (fuel := 100000) fun M hM => ?_
    simp only [List.mem_cons, List.not_mem_nil, or_false] at hM
    rw [hM]
    exact gen0_run
  · cases hf
    refine hookMemo_ok (kk := hk1) follows callable18 hk1_ok (fuel := 100000) fun M hM => ?_
    simp only [List.mem_cons, List.not_mem_nil, or_false] at hM
    rw [hM]
    exact link0_run
  · unfold hkG at hf
    split at hf
    · cases hf
      exact fmt_ok
    · unfold hkF at hf
      split at hf <;> cases hf
      · exact hookCaught_ok
      · exact hookOps_ok
      · exact hookCheck_ok
end Go.Proofs.YtlfmgfgcaepmjaaGreat
