/- diff.Turn: the way back. -/
import Derived.Test.YtmlebgikdegjjaaGreatDoorUh
import Derived.Test.YtmlebgikdegjjaaGreatDoorPAllx2
namespace Go.Proofs.YtmlebgikdegjjaaGreatDoor.Hd
open Go.Maps Go.RowKit Go.Proofs.YtmlebgikdegjjaaGreatDoorW.PrintWords Go.Proofs.YtmlebgikdegjjaaGreatDoorW.PrintLast Go.Proofs.YtmlebgikdegjjaaGreatDoorW.PrintMore Go.Proofs.YtmlebgikdegjjaaGreatDoor.PAll
attribute [local go_sem] max2_int min2_int max_two min_two max_three min_three max_four min_four
set_option linter.unusedVariables false
set_option linter.unusedSimpArgs false
def turnP (p : List S82) : List S82:=p.map fun x=>⟨x.f0,x.f2,x.f1⟩
end Go.Proofs.YtmlebgikdegjjaaGreatDoor.Hd
