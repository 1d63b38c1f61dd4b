/- The reference's reader, walked. -/
import Derived.Test.YtmlebgikdegjjaaGreatDoorQa
namespace Go.Proofs.YtmlebgikdegjjaaGreatDoor.Hd
open Go.RowKit Go.Proofs.YtmlebgikdegjjaaGreatDoorW.PrintWords Go.Proofs.YtmlebgikdegjjaaGreatDoorW.PrintLast Go.Proofs.YtmlebgikdegjjaaGreatDoorW.PrintMore
attribute [local go_sem] max2_int min2_int max_two min_two max_three min_three max_four min_four
set_option linter.unusedVariables false
set_option linter.unusedSimpArgs false
theorem strOf_size (bs : List Int) : (strOfNums bs).size = bs.length:=by simp [strOfNums,ByteArray.size]
end Go.Proofs.YtmlebgikdegjjaaGreatDoor.Hd
