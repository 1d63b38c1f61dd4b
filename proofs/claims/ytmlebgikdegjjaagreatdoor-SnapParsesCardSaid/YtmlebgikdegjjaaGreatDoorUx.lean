/- Plain laws: definitions that are turned, and New of definitions in another order. -/
import Derived.Test.YtmlebgikdegjjaaGreatDoorUh
import Derived.Test.YtmlebgikdegjjaaGreatDoorPAllx16
namespace Go.Proofs.YtmlebgikdegjjaaGreatDoor.Hd
open Go.Maps Go.RowKit Go.Proofs.YtmlebgikdegjjaaGreatDoorW.PrintWords Go.Proofs.YtmlebgikdegjjaaGreatDoorW.PrintLast Go.Proofs.YtmlebgikdegjjaaGreatDoorW.PrintMore Go.Proofs.YtmlebgikdegjjaaGreatDoor.PAll
attribute [local go_sem] max2_int min2_int max_two min_two max_three min_three max_four min_four
set_option linter.unusedVariables false
set_option linter.unusedSimpArgs false
theorem infoD_ : ((Tryz.prog.info? 34).map (fun i=>(i.zero,i.size,i.bytes))) = some (some (.agg #[.int .i64 0,.string ⟨#[]⟩,.string ⟨#[]⟩,.slice none 0 0,.string ⟨#[]⟩,.string ⟨#[]⟩]),6,96):=by kernel_rfl
section
variable {key : S34 → ByteArray}
end
end Go.Proofs.YtmlebgikdegjjaaGreatDoor.Hd
