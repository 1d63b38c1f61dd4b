/- A definition, read: the program's and the reference's. -/
import Derived.Test.YtmlebgikdegjjaaGreatDoorQb
import Derived.Test.YtmlebgikdegjjaaGreatDoorPs
import Derived.Laws.ResultCell
namespace Go.Proofs.YtmlebgikdegjjaaGreatDoor.Hd
open Go.RowKit Go.Proofs.YtmlebgikdegjjaaGreatDoorW.PrintWords Go.Proofs.YtmlebgikdegjjaaGreatDoorW.PrintLast Go.Proofs.YtmlebgikdegjjaaGreatDoorW.PrintMore Go.Proofs.YtmlebgikdegjjaaGreatDoor.PAll
attribute [local go_sem] max2_int min2_int max_two min_two max_three min_three max_four min_four
set_option linter.unusedVariables false
set_option linter.unusedSimpArgs false
/-- A definition's parts. -/
structure DV where
 kd : Int
 c : ByteArray
 s : ByteArray
 v : List ByteArray
 l : ByteArray
 t : ByteArray
def DV.zero : DV:=⟨0,⟨#[]⟩,⟨#[]⟩,[],⟨#[]⟩,⟨#[]⟩⟩
end Go.Proofs.YtmlebgikdegjjaaGreatDoor.Hd
