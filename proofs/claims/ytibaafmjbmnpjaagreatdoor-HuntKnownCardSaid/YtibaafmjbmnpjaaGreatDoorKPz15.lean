/- Pieces of the run: what the evaluator tells of a call. -/
import Derived.Test.YtibaafmjbmnpjaaGreatDoorKYB
set_option linter.unusedVariables false
set_option maxRecDepth 1000000
namespace Go.Ev
open Go Go.Proofs
theorem j000T : leRR (callQ Tryz.prog tabs sumsC 60 198 j000A (mkH 967 j000L)) 967 j000O j000V j000M = true := by kernel_rfl
theorem j000P : okP j000A 967 j000L 967 j000M = true := by kernel_rfl
theorem h042T : leRR (callQ Tryz.prog tabs j000S 60 42 h042A (mkH 461 h042L)) 461 h042N h042V h042M = true := by kernel_rfl
theorem h042P : okP h042A 461 h042L 484 h042M = true := by kernel_rfl
theorem h050T : leRR (callQ Tryz.prog tabs sumsC 60 60 h050A (mkH 502 h050L)) 502 h050O h050V h050M = true := by kernel_rfl
theorem h050P : okP h050A 502 h050L 519 h050M = true := by kernel_rfl
end Go.Ev
