/- A region that draws its order, in a round of a range over a function: what holds in the plain calculus holds there, where no operation defers. -/
import Derived.OrdersIn
import Derived.RangeFuncNested
import Derived.Test.YtmlebgikdegjjaaGreatDoorWWords
namespace Go.Proofs.YtmlebgikdegjjaaGreatDoor.Rr
open Go.RowKit Go.Proofs.YtmlebgikdegjjaaGreatDoorW.PrintLast
set_option linter.unusedVariables false
section
variable {n : Nat} {P : Program} {ops : Array Oper} {Q : Exit → Act → World → Prop} {md : Region.Mode} {l : Nat}
theorem calls_round {f : FuncId} {args : Array Value} {w : World} {R : Ending → World → Prop} (m : Nat) (h : Calls P f args w R) : CallsIn (Fence.wide.inRound l) m P f args w R:=callsIn_wide.2 h
end
end Go.Proofs.YtmlebgikdegjjaaGreatDoor.Rr
