/- Octet's reader: what it is, and its methods. -/
import Derived.Test.YtmlebgikdegjjaaGreatDoorNm
import Derived.Test.YtmlebgikdegjjaaGreatDoorWWords
import Derived.Test.YtmlebgikdegjjaaGreatDoorProg
namespace Go.Proofs.YtmlebgikdegjjaaGreatDoor.Hd
open Go.RowKit Go.Proofs.YtmlebgikdegjjaaGreatDoorW.PrintWords Go.Proofs.YtmlebgikdegjjaaGreatDoorW.PrintLast Go.Proofs.YtmlebgikdegjjaaGreatDoorW.PrintMore
attribute [local go_sem] max2_int min2_int max_two min_two max_three min_three max_four min_four
set_option linter.unusedVariables false
set_option linter.unusedSimpArgs false
def val (bs : List Int) : Int:=bs.foldl (fun n c=>n * 256 + c) 0
theorem u64_mod (n : Int) (h : 0 ≤ n ∧ n < 18446744073709551616) : IntKind.u64.wrap n = n:=IntWalk.u64_in n ⟨h.1,by omega⟩
theorem infoU8_ : ((Tryz.prog.info? 5).map (fun i=>(i.zero,i.size,i.bytes))) = some (some (.int .u8 0),1,1):=by kernel_rfl
end Go.Proofs.YtmlebgikdegjjaaGreatDoor.Hd
