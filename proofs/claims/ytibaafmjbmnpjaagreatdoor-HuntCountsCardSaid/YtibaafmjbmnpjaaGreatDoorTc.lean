/- The table of what each function leads to is the program's. -/
import Derived.Test.YtibaafmjbmnpjaaGreatDoorTb
import Derived.KernelRfl
import GoSem.ClaimFn
import GoSem.Claim
namespace Go.Ev
open Go Go.Proofs
def eqL1 : List Nat → List Nat → Bool
  | [], [] => true
  | a :: l, b :: r => cond (Nat.beq a b) (eqL1 l r) false
  | _, _ => false
noncomputable def leadsB (P : Program) (l : List Func) : List (List Nat) → Bool := List.rec (motive := fun _ => List (List Nat) → Bool) (fun t => t.isEmpty) (fun fn _ ih t => match t with | [] => false | r :: t => cond (eqL1 (P.leadsTo fn) r) (ih t) false) l
set_option maxRecDepth 100000 in
theorem leads_ok : leadsB Tryz.prog Tryz.prog.funcs.toList leadTab = true := by kernel_rfl
end Go.Ev
