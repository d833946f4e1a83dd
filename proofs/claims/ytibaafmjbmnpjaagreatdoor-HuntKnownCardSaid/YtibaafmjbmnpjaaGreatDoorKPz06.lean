/- Pieces of the run: what the evaluator tells of a call. -/
import Derived.Test.YtibaafmjbmnpjaaGreatDoorKYA
set_option linter.unusedVariables false
set_option maxRecDepth 1000000
namespace Go.Ev
open Go Go.Proofs
theorem h015h009T : (and (leRR (callQ Tryz.prog tabs sumsC 60 111 h015A (mkH 351 h015L)) 351 h015O h015V h015M) (and (leRR (callQ Tryz.prog tabs sumsC 60 42 h016A (mkH 357 h016L)) 357 h016O h016V h016M) (and (leRR (callQ Tryz.prog tabs sumsC 60 110 h017A (mkH 379 h017L)) 379 h017O h017V h017M) (and (leRR (callQ Tryz.prog tabs h017S 60 62 h012A (mkH 318 h012L)) 318 h012O h012V h012M) (leRR (callQ Tryz.prog tabs h012S 60 38 h009A (mkH 267 h009L)) 267 h009O h009V h009M))))) = true := by kernel_rfl
theorem h015T : leRR (callQ Tryz.prog tabs sumsC 60 111 h015A (mkH 351 h015L)) 351 h015O h015V h015M = true := and_l h015h009T
theorem h016T : leRR (callQ Tryz.prog tabs sumsC 60 42 h016A (mkH 357 h016L)) 357 h016O h016V h016M = true := and_l (and_r h015h009T)
theorem h017T : leRR (callQ Tryz.prog tabs sumsC 60 110 h017A (mkH 379 h017L)) 379 h017O h017V h017M = true := and_l (and_r (and_r h015h009T))
theorem h012T : leRR (callQ Tryz.prog tabs h017S 60 62 h012A (mkH 318 h012L)) 318 h012O h012V h012M = true := and_l (and_r (and_r (and_r h015h009T)))
theorem h009T : leRR (callQ Tryz.prog tabs h012S 60 38 h009A (mkH 267 h009L)) 267 h009O h009V h009M = true := (and_r (and_r (and_r (and_r h015h009T))))
theorem h015P : okP h015A 351 h015L 351 h015M = true := by kernel_rfl
theorem h016P : okP h016A 357 h016L 379 h016M = true := by kernel_rfl
theorem h017P : okP h017A 379 h017L 380 h017M = true := by kernel_rfl
theorem h012P : okP h012A 318 h012L 320 h012M = true := by kernel_rfl
theorem h009P : okP h009A 267 h009L 271 h009M = true := by kernel_rfl
theorem h060h063T : (and (leRR (callQ Tryz.prog tabs sumsC 60 60 h060A (mkH 575 h060L)) 575 h060O h060V h060M) (and (leRR (callQ Tryz.prog tabs h122S 60 42 h062A (mkH 594 h062L)) 594 h062O h062V h062M) (leRR (callQ Tryz.prog tabs sumsC 60 110 h063A (mkH 617 h063L)) 617 h063O h063V h063M))) = true := by kernel_rfl
theorem h060T : leRR (callQ Tryz.prog tabs sumsC 60 60 h060A (mkH 575 h060L)) 575 h060O h060V h060M = true := and_l h060h063T
theorem h062T : leRR (callQ Tryz.prog tabs h122S 60 42 h062A (mkH 594 h062L)) 594 h062O h062V h062M = true := and_l (and_r h060h063T)
theorem h063T : leRR (callQ Tryz.prog tabs sumsC 60 110 h063A (mkH 617 h063L)) 617 h063O h063V h063M = true := (and_r (and_r h060h063T))
theorem h060P : okP h060A 575 h060L 581 h060M = true := by kernel_rfl
theorem h062P : okP h062A 594 h062L 617 h062M = true := by kernel_rfl
theorem h063P : okP h063A 617 h063L 628 h063M = true := by kernel_rfl
theorem h088h091T : (and (leRR (callQ Tryz.prog tabs sumsC 60 42 h088A (mkH 1100 h088L)) 1100 h088O h088V h088M) (and (leRR (callQ Tryz.prog tabs sumsC 60 110 h089A (mkH 1122 h089L)) 1122 h089O h089V h089M) (and (leRR (callQ Tryz.prog tabs h089S 60 62 h084A (mkH 1061 h084L)) 1061 h084O h084V h084M) (and (leRR (callQ Tryz.prog tabs h084S 60 38 h081A (mkH 1010 h081L)) 1010 h081O h081V h081M) (leRR (callQ Tryz.prog tabs sumsC 60 42 h091A (mkH 1037 h091L)) 1037 h091O h091V h091M))))) = true := by kernel_rfl
theorem h088T : leRR (callQ Tryz.prog tabs sumsC 60 42 h088A (mkH 1100 h088L)) 1100 h088O h088V h088M = true := and_l h088h091T
theorem h089T : leRR (callQ Tryz.prog tabs sumsC 60 110 h089A (mkH 1122 h089L)) 1122 h089O h089V h089M = true := and_l (and_r h088h091T)
theorem h084T : leRR (callQ Tryz.prog tabs h089S 60 62 h084A (mkH 1061 h084L)) 1061 h084O h084V h084M = true := and_l (and_r (and_r h088h091T))
theorem h081T : leRR (callQ Tryz.prog tabs h084S 60 38 h081A (mkH 1010 h081L)) 1010 h081O h081V h081M = true := and_l (and_r (and_r (and_r h088h091T)))
theorem h091T : leRR (callQ Tryz.prog tabs sumsC 60 42 h091A (mkH 1037 h091L)) 1037 h091O h091V h091M = true := (and_r (and_r (and_r (and_r h088h091T))))
theorem h088P : okP h088A 1100 h088L 1122 h088M = true := by kernel_rfl
theorem h089P : okP h089A 1122 h089L 1123 h089M = true := by kernel_rfl
theorem h084P : okP h084A 1061 h084L 1063 h084M = true := by kernel_rfl
theorem h081P : okP h081A 1010 h081L 1014 h081M = true := by kernel_rfl
theorem h091P : okP h091A 1037 h091L 1059 h091M = true := by kernel_rfl
end Go.Ev
