/- The seat's hooks, and what the calls of the law's own check come to. -/
import Derived.Test.YtlfmgfgcaepmjaaGreatF1
import Derived.Test.YtlfmgfgcaepmjaaGreatK4
import Derived.Test.YtlfmgfgcaepmjaaGreatD6
set_option linter.unusedSimpArgs false
set_option linter.unusedVariables false
set_option linter.unusedSectionVars false
set_option linter.unusedSimpArgs false
set_option linter.unusedVariables false
set_option linter.unusedSectionVars false
namespace Go.Proofs.YtlfmgfgcaepmjaaGreat
open Go.RowKit Go.Eng
set_option linter.unusedVariables false
set_option linter.unusedSectionVars false
set_option maxRecDepth 100000
@[reducible] def s0 : Sym := { val := fun _ => 0 }
noncomputable def hkF (f : FuncId) : Option Hook :=
  match f with
  | 39 => some hookCaught
  | 576 => some hookOps
  | 610 => some hookCheck
  | _ => none
@[reducible] noncomputable def hk : Hooks := { hk := hkF }
theorem hk_ok (S : Sym) : @HooksOK S hk Tryz.prog := by
  letI := S
  letI := hk
  refine ⟨fun f h hf => ?_⟩
  have hf : hkF f = some h := hf
  unfold hkF at hf
  split at hf <;> cases hf
  · exact hookCaught_ok
  · exact hookOps_ok
  · exact hookCheck_ok
def parse0 : Memo := ⟨[.str [102, 110, 32, 109, 97, 105, 110, 40, 41, 32, 123, 32, 111, 117, 116, 40, 49, 44, 32, 105, 110, 40, 50, 41, 32, 43, 32, 49, 41, 59, 32, 125]],
  [],
  .tup [.agg [.nils, .nils, .slice 3 0 0 1 1 false 10], .int .i64 0, .int .i64 0],
  [(110, [.int .i64 (11), .str [], .int .u16 (2), .nils, .int .i64 1, .str [], .int .u16 1, .nils]), (110, [.int .i64 (13), .str [43], .int .u16 0, .slice 0 0 0 2 2 true 4]), (199, [.int .i64 (11), .str [], .int .i64 0, .str [], .int .i64 0, .nils, .int .u16 1, .slice 1 0 0 1 1 true 4, .nils, .nils, .nils]), (74, [.str [109, 97, 105, 110], .nils, .int .i64 (7), .str [], .int .i64 0, .nils, .slice 2 0 0 1 1 false 11, .bool false, .int .i64 0, .int .u16 0])],
  [[(215, 0), (231, 0), (234, 0), (237, 0)]]⟩
def parse1 : Memo := ⟨[.str [101, 120, 116, 101, 114, 110, 32, 102, 110, 32, 101, 40, 41, 32, 97, 116, 32, 48, 58, 48, 120, 48, 49, 48, 48, 59, 32, 102, 110, 32, 109, 97, 105, 110, 40, 41, 32, 123, 32, 125]],
  [],
  .tup [.agg [.nils, .nils, .slice 0 0 0 2 2 false 10], .int .i64 0, .int .i64 0],
  [(74, [.str [101], .nils, .int .i64 (7), .str [], .int .i64 0, .nils, .nils, .bool true, .int .i64 0, .int .u16 (256), .str [109, 97, 105, 110], .nils, .int .i64 (7), .str [], .int .i64 0, .nils, .nils, .bool false, .int .i64 0, .int .u16 0])],
  [[(71, 1)]]⟩
def parse2 : Memo := ⟨[.str ([102, 110, 32, 102, 40, 97, 58, 32, 117, 56, 41, 32, 117, 49, 54, 32, 123, 32, 114, 101, 116, 117, 114, 110, 32, 97, 32, 43, 32, 49, 59, 32, 125, 32, 102, 110, 32, 109, 97, 105, 110, 40, 41, 32, 123, 32, 108, 101, 116, 32, 120, 58, 32, 117, 49, 54, 32, 61, 32, 105, 110, 40, 49, 41, 59, 32, 111, 117, 116, 40, 49, 44, 32, 102, 40, 120, 41, 41, 59, 32, 125])],
  [],
  .tup [.agg [.nils, .nils, .slice 8 0 0 2 2 false 10], .int .i64 0, .int .i64 0],
  [(202, [.str [97], .int .i64 (2), .str [], .int .i64 0, .nils]), (110, [.int .i64 (2), .str [97], .int .u16 0, .nils, .int .i64 1, .str [], .int .u16 1, .nils]), (110, [.int .i64 (13), .str [43], .int .u16 0, .slice 1 0 0 2 2 true 4]), (199, [.int .i64 (10), .str [], .int .i64 0, .str [], .int .i64 0, .nils, .int .u16 0, .slice 2 0 0 1 1 true 4, .nils, .nils, .nils]), (110, [.int .i64 (11), .str [], .int .u16 1, .nils]), (110, [.int .i64 (2), .str [120], .int .u16 0, .nils]), (110, [.int .i64 (14), .str [102], .int .u16 0, .slice 5 0 0 1 1 false 4]), (199, [.int .i64 1, .str [120], .int .i64 1, .str [], .int .i64 0, .nils, .int .u16 0, .slice 4 0 0 1 1 true 4, .nils, .nils, .nils, .int .i64 (11), .str [], .int .i64 0, .str [], .int .i64 0, .nils, .int .u16 1, .slice 6 0 0 1 1 true 4, .nils, .nils, .nils]), (74, [.str [102], .slice 0 0 0 1 1 false 5, .int .i64 1, .str [], .int .i64 0, .nils, .slice 3 0 0 1 1 false 11, .bool false, .int .i64 0, .int .u16 0, .str [109, 97, 105, 110], .nils, .int .i64 (7), .str [], .int .i64 0, .nils, .slice 7 0 0 2 2 false 11, .bool false, .int .i64 0, .int .u16 0])],
  [[(147, 0), (295, 0), (309, 0), (312, 0), (454, 0), (679, 0), (702, 0), (457, 1), (315, 1)]]⟩
def parse3 : Memo := ⟨[.str ([102, 110, 32, 102, 40, 97, 58, 32, 117, 56, 41, 32, 117, 49, 54, 32, 123, 32, 114, 101, 116, 117, 114, 110, 32, 97, 32, 43, 32, 49, 59, 32, 125, 32, 102, 110, 32, 109, 97, 105, 110, 40, 41, 32, 123, 32, 108, 101, 116, 32, 120, 58, 32, 117, 49, 54, 32, 61, 32, 105, 110, 40, 49, 41, 59, 32, 111, 117, 116, 40, 49, 44, 32, 117, 49, 54, 40, 117, 56, 40, 120, 41, 32, 43, 32, 49, 41, 41, 59, 32, 125])],
  [],
  .tup [.agg [.nils, .nils, .slice 10 0 0 2 2 false 10], .int .i64 0, .int .i64 0],
  [(202, [.str [97], .int .i64 (2), .str [], .int .i64 0, .nils]), (110, [.int .i64 (2), .str [97], .int .u16 0, .nils, .int .i64 1, .str [], .int .u16 1, .nils]), (110, [.int .i64 (13), .str [43], .int .u16 0, .slice 1 0 0 2 2 true 4]), (199, [.int .i64 (10), .str [], .int .i64 0, .str [], .int .i64 0, .nils, .int .u16 0, .slice 2 0 0 1 1 true 4, .nils, .nils, .nils]), (110, [.int .i64 (11), .str [], .int .u16 1, .nils]), (110, [.int .i64 (2), .str [120], .int .u16 0, .nils]), (110, [.int .i64 (15), .str [117, 56], .int .u16 0, .slice 5 0 0 1 1 true 4, .int .i64 1, .str [], .int .u16 1, .nils]), (110, [.int .i64 (13), .str [43], .int .u16 0, .slice 6 0 0 2 2 true 4]), (110, [.int .i64 (15), .str [117, 49, 54], .int .u16 0, .slice 7 0 0 1 1 true 4]), (199, [.int .i64 1, .str [120], .int .i64 1, .str [], .int .i64 0, .nils, .int .u16 0, .slice 4 0 0 1 1 true 4, .nils, .nils, .nils, .int .i64 (11), .str [], .int .i64 0, .str [], .int .i64 0, .nils, .int .u16 1, .slice 8 0 0 1 1 true 4, .nils, .nils, .nils]), (74, [.str [102], .slice 0 0 0 1 1 false 5, .int .i64 1, .str [], .int .i64 0, .nils, .slice 3 0 0 1 1 false 11, .bool false, .int .i64 0, .int .u16 0, .str [109, 97, 105, 110], .nils, .int .i64 (7), .str [], .int .i64 0, .nils, .slice 9 0 0 2 2 false 11, .bool false, .int .i64 0, .int .u16 0])],
  [[(163, 0), (311, 0), (325, 0), (328, 0), (470, 0), (791, 0), (830, 0), (846, 0), (868, 0), (473, 1), (331, 1)]]⟩
def gen0 : Memo := ⟨[.agg [.slice 0 0 0 1 1 false 1, .slice 3 0 0 1 1 false 1, .int .i64 0, .int .i64 (-1), .nils, .nils], .slice 4 0 0 1 1 false 1, .agg [.int .u32 0, .bool false, .int .u32 0, .int .u32 0, .bool false, .nils]],
  [(83, [.slice 1 0 0 1 1 false 5]), (270, [.nils, .slice 2 0 0 4 4 false 6, .int .i64 (4), .int .i64 (-1), .nils]), (272, [.int .i64 1, .int .i64 0, .int .i64 0, .int .i64 0, .int .u16 1, .nils, .int .i64 (24), .int .i64 1, .int .i64 0, .int .i64 0, .int .u16 (2), .nils, .int .i64 (5), .int .i64 (2), .int .i64 1, .int .i64 0, .int .u16 0, .nils, .int .i64 (25), .int .i64 (-1), .int .i64 (2), .int .i64 0, .int .u16 1, .nils]), (3, [.int .i64 0]), (9, [.str [109, 97, 105, 110]])],
  .tup [.slice 1 0 0 1 1 false 2, .int .i64 0],
  [(493, [.int .i64 0, .int .i64 (48), .int .i64 0, .int .i64 0, .int .u16 1, .int .u16 0, .int .i64 0, .int .i64 (3), .int .i64 (-1), .int .i64 (-1), .int .i64 (-1), .nils, .int .i64 (-1), .int .i64 (32), .int .i64 1, .int .i64 0, .int .u16 0, .int .u16 0, .int .i64 0, .int .i64 (2), .int .i64 (-1), .int .i64 (-1), .int .i64 (-1), .nils, .int .i64 (-1), .int .i64 (144), .int .i64 0, .int .i64 0, .int .u16 (2), .int .u16 0, .int .i64 0, .int .i64 (3), .int .i64 (-1), .int .i64 (-1), .int .i64 (-1), .nils, .int .i64 (-1), .int .i64 (32), .int .i64 (2), .int .i64 0, .int .u16 0, .int .u16 0, .int .i64 0, .int .i64 (2), .int .i64 (-1), .int .i64 (-1), .int .i64 (-1), .nils, .int .i64 (-1), .int .i64 (32), .int .i64 0, .int .i64 (2), .int .u16 0, .int .u16 0, .int .i64 0, .int .i64 (2), .int .i64 (-1), .int .i64 (-1), .int .i64 (-1), .nils, .int .i64 (-1), .int .i64 (33), .int .i64 0, .int .i64 1, .int .u16 0, .int .u16 0, .int .i64 0, .int .i64 (2), .int .i64 (-1), .int .i64 (-1), .int .i64 (-1), .nils, .int .i64 (-1), .int .i64 (32), .int .i64 1, .int .i64 0, .int .u16 0, .int .u16 0, .int .i64 0, .int .i64 (2), .int .i64 (-1), .int .i64 (-1), .int .i64 (-1), .nils, .int .i64 (-1), .int .i64 (145), .int .i64 1, .int .i64 0, .int .u16 1, .int .u16 0, .int .i64 0, .int .i64 (3), .int .i64 (-1), .int .i64 (-1), .int .i64 (-1), .nils, .int .i64 (-1), .int .i64 (48), .int .i64 0, .int .i64 0, .int .u16 0, .int .u16 0, .int .i64 0, .int .i64 (3), .int .i64 (-1), .int .i64 (-1), .int .i64 (-1), .nils, .int .i64 (-1), .int .i64 1, .int .i64 0, .int .i64 0, .int .u16 0, .int .u16 0, .int .i64 0, .int .i64 1, .int .i64 (-1), .int .i64 (-1), .int .i64 (-1), .nils]), (156, [.str [109, 97, 105, 110], .slice 0 0 0 10 10 false 12])],
  [[(323, 9), (464, 0)]]⟩
def link0 : Memo := ⟨[.slice 0 0 0 1 1 false 2, .int .i64 0, .int .i64 (-1), .nils, .agg [.int .u32 0, .bool false, .int .u32 0, .int .u32 0, .bool false, .nils]],
  [(156, [.str [109, 97, 105, 110], .slice 1 0 0 10 10 false 12]), (493, [.int .i64 0, .int .i64 (48), .int .i64 0, .int .i64 0, .int .u16 1, .int .u16 0, .int .i64 0, .int .i64 (3), .int .i64 (-1), .int .i64 (-1), .int .i64 (-1), .nils, .int .i64 (-1), .int .i64 (32), .int .i64 1, .int .i64 0, .int .u16 0, .int .u16 0, .int .i64 0, .int .i64 (2), .int .i64 (-1), .int .i64 (-1), .int .i64 (-1), .nils, .int .i64 (-1), .int .i64 (144), .int .i64 0, .int .i64 0, .int .u16 (2), .int .u16 0, .int .i64 0, .int .i64 (3), .int .i64 (-1), .int .i64 (-1), .int .i64 (-1), .nils, .int .i64 (-1), .int .i64 (32), .int .i64 (2), .int .i64 0, .int .u16 0, .int .u16 0, .int .i64 0, .int .i64 (2), .int .i64 (-1), .int .i64 (-1), .int .i64 (-1), .nils, .int .i64 (-1), .int .i64 (32), .int .i64 0, .int .i64 (2), .int .u16 0, .int .u16 0, .int .i64 0, .int .i64 (2), .int .i64 (-1), .int .i64 (-1), .int .i64 (-1), .nils, .int .i64 (-1), .int .i64 (33), .int .i64 0, .int .i64 1, .int .u16 0, .int .u16 0, .int .i64 0, .int .i64 (2), .int .i64 (-1), .int .i64 (-1), .int .i64 (-1), .nils, .int .i64 (-1), .int .i64 (32), .int .i64 1, .int .i64 0, .int .u16 0, .int .u16 0, .int .i64 0, .int .i64 (2), .int .i64 (-1), .int .i64 (-1), .int .i64 (-1), .nils, .int .i64 (-1), .int .i64 (145), .int .i64 1, .int .i64 0, .int .u16 1, .int .u16 0, .int .i64 0, .int .i64 (3), .int .i64 (-1), .int .i64 (-1), .int .i64 (-1), .nils, .int .i64 (-1), .int .i64 (48), .int .i64 0, .int .i64 0, .int .u16 0, .int .u16 0, .int .i64 0, .int .i64 (3), .int .i64 (-1), .int .i64 (-1), .int .i64 (-1), .nils, .int .i64 (-1), .int .i64 1, .int .i64 0, .int .i64 0, .int .u16 0, .int .u16 0, .int .i64 0, .int .i64 1, .int .i64 (-1), .int .i64 (-1), .int .i64 (-1), .nils])],
  .tup [.agg [.slice 0 0 0 1 1 false 1, .int .u16 (4), .int .u16 0, .nils, .nils], .slice 1 0 0 1 1 false 4, .int .i64 0],
  [(9, [.str ([0, 0, 0, 0, 48, 0, 1, 32, 16, 144, 0, 2, 32, 32, 32, 2, 33, 1, 32, 16, 145, 1, 1, 48, 0, 0, 1] ++ List.replicate 4069 0)]), (49, [.str [109, 97, 105, 110], .int .i64 0, .int .u16 (4), .int .i64 (23)])],
  [[(856, 0), (852, 0)]]⟩
theorem callable12 : Callable Tryz.prog 12 := ⟨Tryz.f12, _, Tryz.func12, rfl, by kernel_rfl⟩
theorem callable16 : Callable Tryz.prog 16 := ⟨Tryz.f16, _, Tryz.func16, rfl, by kernel_rfl⟩
theorem callable18 : Callable Tryz.prog 18 := ⟨Tryz.f18, _, Tryz.func18, rfl, by kernel_rfl⟩
theorem callable4 : Callable Tryz.prog 4 := ⟨Tryz.f4, _, Tryz.func4, rfl, by kernel_rfl⟩
end Go.Proofs.YtlfmgfgcaepmjaaGreat
