/- The row's facts. -/
import Derived.Test.YtlfmgfgcaepmjaaGreatR2
set_option linter.unusedSimpArgs false
set_option linter.unusedVariables false
set_option linter.unusedSectionVars false
namespace Go.Proofs.YtlfmgfgcaepmjaaGreat
open Go
set_option linter.unusedVariables false
set_option maxRecDepth 100000
theorem typesN : Tryz.prog.types.size = 741 := by kernel_rfl
theorem rows0 : (List.range 80).all (fun i => rowFine Tryz.prog (0 + i)) = true := by kernel_rfl
theorem rows1 : (List.range 80).all (fun i => rowFine Tryz.prog (80 + i)) = true := by kernel_rfl
theorem rows2 : (List.range 80).all (fun i => rowFine Tryz.prog (160 + i)) = true := by kernel_rfl
theorem rows3 : (List.range 80).all (fun i => rowFine Tryz.prog (240 + i)) = true := by kernel_rfl
theorem rows4 : (List.range 80).all (fun i => rowFine Tryz.prog (320 + i)) = true := by kernel_rfl
theorem rows5 : (List.range 80).all (fun i => rowFine Tryz.prog (400 + i)) = true := by kernel_rfl
theorem rows6 : (List.range 80).all (fun i => rowFine Tryz.prog (480 + i)) = true := by kernel_rfl
theorem rows7 : (List.range 80).all (fun i => rowFine Tryz.prog (560 + i)) = true := by kernel_rfl
theorem rows8 : (List.range 80).all (fun i => rowFine Tryz.prog (640 + i)) = true := by kernel_rfl
theorem rows9 : (List.range 21).all (fun i => rowFine Tryz.prog (720 + i)) = true := by kernel_rfl
theorem globalsT : Tryz.prog.globals.all (fun g => decide (g.type < 741)) = true := by kernel_rfl
theorem paramsT : Tryz.prog.funcs.all (fun f => f.params.all fun t => decide (t < 741)) = true := by kernel_rfl
theorem rows_at (t : Nat) (ht : t < 741) : rowFine Tryz.prog t = true := by
  by_cases h0 : t < 80
  · have := List.all_eq_true.1 rows0 (t - 0) (List.mem_range.2 (by omega))
    rwa [show 0 + (t - 0) = t by omega] at this
  by_cases h1 : t < 160
  · have := List.all_eq_true.1 rows1 (t - 80) (List.mem_range.2 (by omega))
    rwa [show 80 + (t - 80) = t by omega] at this
  by_cases h2 : t < 240
  · have := List.all_eq_true.1 rows2 (t - 160) (List.mem_range.2 (by omega))
    rwa [show 160 + (t - 160) = t by omega] at this
  by_cases h3 : t < 320
  · have := List.all_eq_true.1 rows3 (t - 240) (List.mem_range.2 (by omega))
    rwa [show 240 + (t - 240) = t by omega] at this
  by_cases h4 : t < 400
  · have := List.all_eq_true.1 rows4 (t - 320) (List.mem_range.2 (by omega))
    rwa [show 320 + (t - 320) = t by omega] at this
  by_cases h5 : t < 480
  · have := List.all_eq_true.1 rows5 (t - 400) (List.mem_range.2 (by omega))
    rwa [show 400 + (t - 400) = t by omega] at this
  by_cases h6 : t < 560
  · have := List.all_eq_true.1 rows6 (t - 480) (List.mem_range.2 (by omega))
    rwa [show 480 + (t - 480) = t by omega] at this
  by_cases h7 : t < 640
  · have := List.all_eq_true.1 rows7 (t - 560) (List.mem_range.2 (by omega))
    rwa [show 560 + (t - 560) = t by omega] at this
  by_cases h8 : t < 720
  · have := List.all_eq_true.1 rows8 (t - 640) (List.mem_range.2 (by omega))
    rwa [show 640 + (t - 640) = t by omega] at this
  by_cases h9 : t < 741
  · have := List.all_eq_true.1 rows9 (t - 720) (List.mem_range.2 (by omega))
    rwa [show 720 + (t - 720) = t by omega] at this
  omega
theorem Tryz.laidOut : laidOutB Tryz.prog = true := by
  unfold laidOutB
  rw [typesN, globalsT, paramsT]
  rw [List.all_eq_true.2 fun t ht => rows_at t (List.mem_range.1 ht)]
  rfl
theorem mapsRowedT : mapsRowed Tryz.prog = true := by kernel_rfl
theorem stopsT : Tryz.prog.stops = [] := by kernel_rfl
theorem stopKnobsT : Tryz.prog.stopKnobs = [] := by kernel_rfl
theorem plainKeysT : Tryz.prog.plainKeys = false := by kernel_rfl
theorem stopsHeardT : Tryz.prog.stopsHeard = true := by kernel_rfl
theorem mayEnterT : Tryz.prog.mayEnter = true := by kernel_rfl
theorem liftsFinalT : (Rows.buildErrorsRow.lifted == Tryz.prog.liftsFinal) = true := by kernel_rfl
theorem makeT : (Tryz.prog.make == some Rows.buildErrorsRow.make) = true := by kernel_rfl
end Go.Proofs.YtlfmgfgcaepmjaaGreat
