/- Patches that came in as a slice, opened. -/
import Derived.Test.YtmlebgikdegjjaaGreatDoorOc
namespace Go.Proofs.YtmlebgikdegjjaaGreatDoor.Od
open Go.RowKit Go.Proofs.YtmlebgikdegjjaaGreatDoorW.PrintWords Go.Proofs.YtmlebgikdegjjaaGreatDoor.PAll
open Go.ChangeShapes Go.WideShapes Go.Deep
set_option linter.unusedVariables false
set_option linter.unusedSimpArgs false
theorem len3 {α : Type} {cs : List α} (h : cs.length = 3) : ∃ a b c,cs = [a,b,c]:=by
 match cs,h with
 | [a,b,c],_=>exact ⟨a,b,c,rfl⟩
section
variable {H : Type} {enc : TypeId × Value → H} {w : World} {base : Nat} {spare : Nat → Bool} {held : Bool}
theorem elem_edit {n : Nat} {cs : List Value} {y : DataW H × List MemPlace} (h : DataW.trod enc Tryz.prog w base spare held n 82 cs = some y) : ∃ x : S82,k82.K w x cs ∧ True:=by
 obtain ⟨hl,hF⟩:=open_struct Tryz.underlying82 (by kernel_rfl) h
 obtain ⟨x0,x1,x2,rfl⟩:=len3 (hl.trans (show Tryz.prog.cellsOf 82 = 3 by kernel_rfl))
 obtain ⟨_,_,t0⟩:=hF 0 _ rfl
 obtain ⟨_,_,t1⟩:=hF 1 _ rfl
 obtain ⟨_,_,t2⟩:=hF 2 _ rfl
 obtain ⟨nm,e0,_⟩:=open_text Tryz.underlying9 t0
 obtain ⟨A1,c1,f1,e1,h1,C1,_,_⟩:=open_defs t1
 obtain ⟨A2,c2,f2,e2,h2,C2,_,_⟩:=open_defs t2
 have q0 : x0 = .string nm:=(List.cons.inj e0).1
 have q1 : x1 = .slice A1 f1.length c1:=(List.cons.inj e1).1
 have q2 : x2 = .slice A2 f2.length c2:=(List.cons.inj e2).1
 rw [q0,q1,q2]
 exact ⟨⟨nm,f1,f2⟩,k82_mk w ⟨nm,f1,f2⟩ h1 C1 h2 C2,trivial⟩
theorem open_edits {fuel : Nat} {cs : List Value} {y : DataW H × List MemPlace} (h : DataW.trod enc Tryz.prog w base spare held fuel 44 cs = some y) :
  ∃ A c xs,cs = [.slice A xs.length c] ∧ xs.length ≤ c ∧ Kd.C k82 w A xs.length xs ∧ (∀ x ∈ xs,True) ∧ xs.length ≤ maxLen :=
 letI : Inhabited S82:=⟨z82⟩
 open_C k82 Tryz.underlying44 (by kernel_rfl) (fun _=>True) (fun n cs y _ hy=>elem_edit hy) h
end
end Go.Proofs.YtmlebgikdegjjaaGreatDoor.Od
