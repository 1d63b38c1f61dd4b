/- A change that came in by value, and definitions that came in, opened. -/
import Derived.Test.YtmlebgikdegjjaaGreatDoorOr
import Derived.Test.YtmlebgikdegjjaaGreatDoorPAllx0
namespace Go.Proofs.YtmlebgikdegjjaaGreatDoor.Od
open Go.RowKit Go.Proofs.YtmlebgikdegjjaaGreatDoorW.PrintWords Go.Proofs.YtmlebgikdegjjaaGreatDoor.PAll
open Go.ChangeShapes Go.WideShapes Go.Deep
set_option linter.unusedVariables false
set_option linter.unusedSimpArgs false
section
variable {H : Type} {enc : TypeId × Value → H} {w : World} {b0 : Nat} {base : Nat} {spare : Nat → Bool} {held : Bool}
theorem elem_def {n : Nat} {cs : List Value} {y : DataW H × List MemPlace} (h : DataW.trod enc Tryz.prog w base spare held n 34 cs = some y) : ∃ x : S34,k34.K w x cs ∧ True:=by
 obtain ⟨kd,c,s,A,cp,v,l,t,rfl,hcp,hC,_⟩:=open_def6 h
 exact ⟨⟨kd,c,s,v,l,t⟩,k34_mk w ⟨kd,c,s,v,l,t⟩ hcp hC,trivial⟩
theorem open_defs {fuel : Nat} {cs : List Value} {y : DataW H × List MemPlace} (h : DataW.trod enc Tryz.prog w base spare held fuel 22 cs = some y) :
  ∃ A c xs,cs = [.slice A xs.length c] ∧ xs.length ≤ c ∧ Kd.C k34 w A xs.length xs ∧ (∀ x ∈ xs,True) ∧ xs.length ≤ maxLen :=
 letI : Inhabited S34:=⟨z34⟩
 open_C k34 Tryz.underlying22 (by kernel_rfl) (fun _=>True) (fun n cs y _ hy=>elem_def hy) h
end
end Go.Proofs.YtmlebgikdegjjaaGreatDoor.Od
