/- What the reference's Find, Put, Drop and New of chapter 08 come to. -/
import Derived.Test.YtmlebgikdegjjaaGreatDoorPAllx7
import Derived.Test.YtmlebgikdegjjaaGreatDoorPAllx8
import Derived.Test.YtmlebgikdegjjaaGreatDoorPt
import Derived.Test.YtmlebgikdegjjaaGreatDoorUg
namespace Go.Proofs.YtmlebgikdegjjaaGreatDoor.PAll
open Go.RowKit Go.Proofs.YtmlebgikdegjjaaGreatDoorW.PrintWords Go.Proofs.YtmlebgikdegjjaaGreatDoorW.PrintLast
open Go.Proofs.YtmlebgikdegjjaaGreatDoor.Hd (putL dropL hasL newL putL_mem putL_len ltK ltK_less)
set_option linter.unusedVariables false
section
variable {key : S34 → ByteArray}
end
end Go.Proofs.YtmlebgikdegjjaaGreatDoor.PAll
