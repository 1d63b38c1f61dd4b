/- A definition that came in by value, opened. -/
import Derived.Test.YtmlebgikdegjjaaGreatDoorOd
import Derived.Test.YtmlebgikdegjjaaGreatDoorProg
namespace Go.Proofs.YtmlebgikdegjjaaGreatDoor.Od
open Go.RowKit Go.Proofs.YtmlebgikdegjjaaGreatDoorW.PrintWords
open Go.ChangeShapes Go.WideShapes Go.Deep
set_option linter.unusedVariables false
set_option linter.unusedSimpArgs false
theorem len6 {α : Type} {cs : List α} (h : cs.length = 6) : ∃ a b c d e f,cs = [a,b,c,d,e,f]:=by
 match cs,h with
 | [a,b,c,d,e,f],_=>exact ⟨a,b,c,d,e,f,rfl⟩
section
variable {H : Type} {enc : TypeId × Value → H} {w : World} {b0 : Nat} {base : Nat} {spare : Nat → Bool} {held : Bool}
theorem open_def6 {cs : List Value} {fuel : Nat} {y : DataW H × List MemPlace} (h : DataW.trod enc Tryz.prog w base spare held fuel 34 cs = some y) :
  ∃ (kd : Int) (c s : ByteArray) (A : Option Addr) (cp : Nat) (v : List ByteArray) (l t : ByteArray),cs = [.int .i64 kd,.string c,.string s,.slice A v.length cp,.string l,.string t] ∧ v.length ≤ cp ∧ Kd.C Kd.string w A v.length v ∧
   (Lit.int .i64 kd).wf = true ∧ c.size ≤ maxLen ∧ s.size ≤ maxLen ∧ (∀ x ∈ v,x.size ≤ maxLen) ∧ v.length ≤ maxLen ∧ l.size ≤ maxLen ∧ t.size ≤ maxLen:=by
 obtain ⟨hl,hF⟩:=open_struct Tryz.underlying34 (by kernel_rfl) h
 obtain ⟨x0,x1,x2,x3,x4,x5,rfl⟩:=len6 (hl.trans (show Tryz.prog.cellsOf 34 = 6 by kernel_rfl))
 obtain ⟨_,_,t0⟩:=hF 0 _ rfl
 obtain ⟨_,_,t1⟩:=hF 1 _ rfl
 obtain ⟨_,_,t2⟩:=hF 2 _ rfl
 obtain ⟨_,_,t3⟩:=hF 3 _ rfl
 obtain ⟨_,_,t4⟩:=hF 4 _ rfl
 obtain ⟨_,_,t5⟩:=hF 5 _ rfl
 obtain ⟨kd,e0,_,hw⟩:=DataW.trod_int Tryz.underlying3 t0
 obtain ⟨c,e1,hc⟩:=open_text Tryz.underlying9 t1
 obtain ⟨s,e2,hs⟩:=open_text Tryz.underlying9 t2
 obtain ⟨A,cp,v,e3,hcp,hC,hvs,hvl⟩:=open_texts Tryz.underlying32 Tryz.underlying9 (by kernel_rfl) t3
 obtain ⟨l,e4,hl4⟩:=open_text Tryz.underlying9 t4
 obtain ⟨t,e5,ht⟩:=open_text Tryz.underlying9 t5
 have q0 : x0 = .int .i64 kd:=(List.cons.inj e0).1
 have q1 : x1 = .string c:=(List.cons.inj e1).1
 have q2 : x2 = .string s:=(List.cons.inj e2).1
 have q3 : x3 = .slice A v.length cp:=(List.cons.inj e3).1
 have q4 : x4 = .string l:=(List.cons.inj e4).1
 have q5 : x5 = .string t:=(List.cons.inj e5).1
 exact ⟨kd,c,s,A,cp,v,l,t,by rw [q0,q1,q2,q3,q4,q5],hcp,hC,hw,hc,hs,hvs,hvl,hl4,ht⟩
end
end Go.Proofs.YtmlebgikdegjjaaGreatDoor.Od
