/- What the reference writes of definitions and of snapshots. -/
import Derived.Test.YtmlebgikdegjjaaGreatDoorPAllx0
import Derived.Test.YtmlebgikdegjjaaGreatDoorPAllx16
import Derived.Test.YtmlebgikdegjjaaGreatDoorPz
import Derived.Test.YtmlebgikdegjjaaGreatDoorUv
import Derived.Test.YtmlebgikdegjjaaGreatDoorQx
namespace Go.Proofs.YtmlebgikdegjjaaGreatDoor.PAll
open Go.RowKit Go.Proofs.YtmlebgikdegjjaaGreatDoorW.PrintWords Go.Proofs.YtmlebgikdegjjaaGreatDoorW.PrintLast Go.Proofs.YtmlebgikdegjjaaGreatDoor.Hd
set_option linter.unusedVariables false
theorem rightD_kd {kd : Int} {c s : ByteArray} {v : List ByteArray} {l t : ByteArray} (h : rightD kd c s v l t = true) : kd = 1 ∨ kd = 2:=by
 unfold rightD at h
 by_cases h1 : kd = 1
 ·exact Or.inl h1
 ·rw [if_neg h1] at h
  by_cases h2 : kd = 2
  ·exact Or.inr h2
  ·rw [if_neg h2] at h;cases h
end Go.Proofs.YtmlebgikdegjjaaGreatDoor.PAll
