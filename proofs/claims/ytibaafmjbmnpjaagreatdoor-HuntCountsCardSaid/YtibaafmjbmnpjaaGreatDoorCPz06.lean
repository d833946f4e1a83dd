/- Pieces of the run: what the evaluator tells of a call. -/
import Derived.Test.YtibaafmjbmnpjaaGreatDoorCYA
set_option linter.unusedVariables false
set_option maxRecDepth 1000000
namespace Go.Ev
open Go Go.Proofs
theorem c036c039T : (and (leRR (callQ Tryz.prog tabs sumsC 60 110 c036A (mkH 443 c036L)) 443 c036O c036V c036M) (and (leRR (callQ Tryz.prog tabs c036S 60 62 c031A (mkH 374 c031L)) 374 c031O c031V c031M) (and (leRR (callQ Tryz.prog tabs c031S 60 38 c027A (mkH 311 c027L)) 311 c027O c027V c027M) (and (leRR (callQ Tryz.prog tabs sumsC 60 42 c038A (mkH 389 c038L)) 389 c038O c038V c038M) (leRR (callQ Tryz.prog tabs sumsC 60 60 c039A (mkH 421 c039L)) 421 c039O c039V c039M))))) = true := by kernel_rfl
theorem c036T : leRR (callQ Tryz.prog tabs sumsC 60 110 c036A (mkH 443 c036L)) 443 c036O c036V c036M = true := and_l c036c039T
theorem c031T : leRR (callQ Tryz.prog tabs c036S 60 62 c031A (mkH 374 c031L)) 374 c031O c031V c031M = true := and_l (and_r c036c039T)
theorem c027T : leRR (callQ Tryz.prog tabs c031S 60 38 c027A (mkH 311 c027L)) 311 c027O c027V c027M = true := and_l (and_r (and_r c036c039T))
theorem c038T : leRR (callQ Tryz.prog tabs sumsC 60 42 c038A (mkH 389 c038L)) 389 c038O c038V c038M = true := and_l (and_r (and_r (and_r c036c039T)))
theorem c039T : leRR (callQ Tryz.prog tabs sumsC 60 60 c039A (mkH 421 c039L)) 421 c039O c039V c039M = true := (and_r (and_r (and_r (and_r c036c039T))))
theorem c036P : okP c036A 443 c036L 448 c036M = true := by kernel_rfl
theorem c031P : okP c031A 374 c031L 380 c031M = true := by kernel_rfl
theorem c027P : okP c027A 311 c027L 319 c027M = true := by kernel_rfl
theorem c038P : okP c038A 389 c038L 411 c038M = true := by kernel_rfl
theorem c039P : okP c039A 421 c039L 429 c039M = true := by kernel_rfl
theorem c040T : leRR (callQ Tryz.prog tabs sumsC 60 60 c040A (mkH 429 c040L)) 429 c040O c040V c040M = true := by kernel_rfl
theorem c040P : okP c040A 429 c040L 447 c040M = true := by kernel_rfl
end Go.Ev
