/- Three slices of definitions that came in as an array, opened. -/
import Derived.Test.YtmlebgikdegjjaaGreatDoorOc
namespace Go.Proofs.YtmlebgikdegjjaaGreatDoor.Od
open Go.RowKit Go.Proofs.YtmlebgikdegjjaaGreatDoorW.PrintWords Go.Proofs.YtmlebgikdegjjaaGreatDoor.PAll
open Go.ChangeShapes Go.WideShapes Go.Deep
set_option linter.unusedVariables false
set_option linter.unusedSimpArgs false
section
variable {H : Type} {enc : TypeId × Value → H} {w : World} {b0 : Nat} {base : Nat} {spare : Nat → Bool} {held : Bool}
set_option maxRecDepth 100000 in
theorem open_defs3 {r : Reach} {v : Value} {d : DataW H} {p : List MemPlace} (hv : Value.okWide Tryz.prog w r b0 58 v) (h : DataW.Trod enc Tryz.prog w base spare held 58 v d p) :
  ∃ (A0 : Option Addr) (c0 : Nat) (l0 : List S34) (A1 : Option Addr) (c1 : Nat) (l1 : List S34) (A2 : Option Addr) (c2 : Nat) (l2 : List S34),
   v = .agg #[.slice A0 l0.length c0,.slice A1 l1.length c1,.slice A2 l2.length c2] ∧ (l0.length ≤ c0 ∧ Kd.C k34 w A0 l0.length l0) ∧ (l1.length ≤ c1 ∧ Kd.C k34 w A1 l1.length l1) ∧ (l2.length ≤ c2 ∧ Kd.C k34 w A2 l2.length l2):=by
 obtain ⟨cs,rfl⟩ : ∃ cs,v = .agg cs:=by
  simp only [Value.okWide,Tryz.underlying58] at hv
  obtain ⟨cs,h1,_⟩:=hv
  exact ⟨cs,h1⟩
 obtain ⟨fuel,hf⟩:=h
 obtain ⟨xs,m,_,_,hl,hx,hi⟩:=DataW.trod_array Tryz.underlying58 hf
 have e1 : Tryz.prog.cellsOf 22 = 1:=by kernel_rfl
 rw [show Tryz.prog.cellsOf 58 = 3 by kernel_rfl] at hl
 have each : ∀ i,i < 3 → ∃ z,DataW.trod enc Tryz.prog w base spare held m 22 ((cs.toList.drop (i * 1)).take 1) = some z:=fun i h=>by
  have:=hi i h
  rw [e1] at this
  exact ⟨_,this.trans (List.getElem?_eq_getElem (by omega))⟩
 obtain ⟨z0,t0⟩:=each 0 (by decide)
 obtain ⟨z1,t1⟩:=each 1 (by decide)
 obtain ⟨z2,t2⟩:=each 2 (by decide)
 obtain ⟨A0,c0,l0,q0,h0,C0,_,_⟩:=open_defs t0
 obtain ⟨A1,c1,l1,q1,h1,C1,_,_⟩:=open_defs t1
 obtain ⟨A2,c2,l2,q2,h2,C2,_,_⟩:=open_defs t2
 refine ⟨A0,c0,l0,A1,c1,l1,A2,c2,l2,?_,⟨h0,C0⟩,⟨h1,C1⟩,⟨h2,C2⟩⟩
 obtain ⟨cl⟩:=cs
 have hl' : cl.length = 3:=hl
 match cl,hl' with
 | [a,b,c],_ =>
  have e0 : a = _:=(List.cons.inj q0).1
  have e1 : b = _:=(List.cons.inj q1).1
  have e2 : c = _:=(List.cons.inj q2).1
  rw [e0,e1,e2]
end
end Go.Proofs.YtmlebgikdegjjaaGreatDoor.Od
