/- The closed facts of the row of DeskVictims. -/
import Derived.Test.YtibaafmjbmnpjaaGreatDoorVTe0
import Derived.Test.YtibaafmjbmnpjaaGreatDoorVTe9
import Derived.Test.YtibaafmjbmnpjaaGreatDoorVTe12
import Derived.Test.YtibaafmjbmnpjaaGreatDoorTe2
import Derived.Test.YtibaafmjbmnpjaaGreatDoorVTe22
import Derived.Test.YtibaafmjbmnpjaaGreatDoorTe24
import Derived.Test.YtibaafmjbmnpjaaGreatDoorTe25
import Derived.Test.YtibaafmjbmnpjaaGreatDoorTe1a
import Derived.Test.YtibaafmjbmnpjaaGreatDoorTe1c
set_option linter.unusedVariables false
namespace Go.Proofs.YtibaafmjbmnpjaaGreatDoor
open Go.RowKit Go.ChangeShapes Go.WideShapes Go.ChangeAt
set_option maxRecDepth 100000
theorem and_t {a b : Bool} (ha : a = true) (hb : b = true) : (a && b) = true := by rw [ha, hb]; rfl
theorem q1 : laidOutB Tryz.prog = true := and_t (and_t q1a q1b) q1c
set_option maxHeartbeats 100000000 in
theorem facts : joinedFacts Tryz.prog 3 Tryz.f3 Rows.deskVictimsSpec Rows.deskVictimsRow = true := and_t (and_t (and_t (and_t (and_t (and_t (and_t (and_t (and_t (and_t (and_t (and_t (and_t (and_t (and_t (and_t (and_t (and_t (and_t (and_t (and_t (and_t (and_t (and_t (and_t (and_t (and_t (and_t (and_t (and_t (and_t (q0) q1) q2) q3) q4) q5) q6) q7) q8) q9) q10) q11) q12) q13) q14) q15) q16) q17) q18) q19) q20) q21) q22) q23) q24) q25) q26) q27) q28) q29) q30) q31
end Go.Proofs.YtibaafmjbmnpjaaGreatDoor
