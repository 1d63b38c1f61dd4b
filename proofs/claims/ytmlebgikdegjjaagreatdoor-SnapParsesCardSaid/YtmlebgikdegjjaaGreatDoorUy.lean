/- SnapNews, walked. -/
import Derived.Test.YtmlebgikdegjjaaGreatDoorUx
import Derived.Test.YtmlebgikdegjjaaGreatDoorUc
import Derived.Test.YtmlebgikdegjjaaGreatDoorSc
import Derived.Laws.ResultCell
import Derived.Test.YtmlebgikdegjjaaGreatDoorUv
import Derived.Test.YtmlebgikdegjjaaGreatDoorPAllx3
import Derived.Test.YtmlebgikdegjjaaGreatDoorPAllx7
import Derived.Test.YtmlebgikdegjjaaGreatDoorPAllx7
import Derived.Test.YtmlebgikdegjjaaGreatDoorPAllx0
import Derived.Test.YtmlebgikdegjjaaGreatDoorPAllx16
import Derived.Test.YtmlebgikdegjjaaGreatDoorPAllx8
import Derived.Test.YtmlebgikdegjjaaGreatDoorPAllx16
namespace Go.Proofs.YtmlebgikdegjjaaGreatDoor.Hd
open Go.Maps Go.RowKit Go.Proofs.YtmlebgikdegjjaaGreatDoorW.PrintWords Go.Proofs.YtmlebgikdegjjaaGreatDoorW.PrintLast Go.Proofs.YtmlebgikdegjjaaGreatDoorW.PrintMore Go.Proofs.YtmlebgikdegjjaaGreatDoor.PAll
attribute [local go_sem] max2_int min2_int max_two min_two max_three min_three max_four min_four
set_option linter.unusedVariables false
set_option linter.unusedSimpArgs false
theorem write_same (key : S34 → ByteArray) (k : Nat) (w : World) (p : Option Addr) (out : List S34) (h : SnR w (.pointer p) (mapK key out)) (hl : out.length ≤ 500) (hd : ∀ d ∈ out,Wok k d) :
  Calls Tryz.prog 36 #[.pointer p] w fun e w'=>∃ A3 c3,e = .returned (.slice A3 (snapO out).length c3) ∧ (snapO out).length ≤ c3 ∧ Kd.C (Kd.int .u8) w' A3 (snapO out).length (snapO out) ∧ Below w.heap.size w w':=by
 have h1:=write_calls k w p (mapK key out) h (by rw [size_mapK];exact hl) (by rw [vals_mapK];exact hd)
 rw [vals_mapK] at h1
 refine h1.mono ?_
 rintro e w' ⟨vv,rfl,hR,hb⟩
 obtain ⟨A3,c3,rfl,hl3,hC3⟩:=Kd.R_reads hR
 exact ⟨A3,c3,rfl,hl3,hC3,hb⟩
end Go.Proofs.YtmlebgikdegjjaaGreatDoor.Hd
