/- What came in, opened: slices as lists; a struct's parts. -/
import Derived.Test.YtmlebgikdegjjaaGreatDoorNm
import Derived.Test.YtmlebgikdegjjaaGreatDoorWWords
import Derived.Deep.Slices
import Derived.Deep.Strs
import Derived.OpenShut
import Derived.Deep.Fields
import Derived.ProofKit
namespace Go.Proofs.YtmlebgikdegjjaaGreatDoor.Od
open Go.RowKit Go.Proofs.YtmlebgikdegjjaaGreatDoorW.PrintWords
open Go.ChangeShapes Go.WideShapes Go.Deep
set_option linter.unusedVariables false
set_option linter.unusedSimpArgs false
section
variable {H : Type} {enc : TypeId × Value → H} {w : World} {base : Nat} {spare : Nat → Bool} {held : Bool}
theorem open_C {α : Type} [Inhabited α] {P : Program} (d : Kd α) {t e : TypeId} (ht : P.underlying t = some (.slice e)) (hsz : P.cellsOf e = d.sz) (good : α → Prop)
  (helem : ∀ (n : Nat) (cs : List Value) y,cs.length = d.sz → DataW.trod enc P w base spare held n e cs = some y → ∃ x,d.K w x cs ∧ good x)
  {fuel : Nat} {cs : List Value} {y : DataW H × List MemPlace} (h : DataW.trod enc P w base spare held fuel t cs = some y) :
  ∃ A c xs,cs = [.slice A xs.length c] ∧ xs.length ≤ c ∧ Kd.C d w A xs.length xs ∧ (∀ x ∈ xs,good x) ∧ xs.length ≤ maxLen:=by
 rcases Go.Deep.open_slice ht h with ⟨rfl,_⟩ | ⟨a,len,cap,m,n,D,Pl,rfl,hb,hl,hm,hmm,rfl,hx⟩
 ·exact ⟨none,0,[],rfl,Nat.le_refl _,⟨rfl,Nat.zero_le _,fun h=>absurd h (Nat.not_lt_zero _)⟩,(by intro x hx;cases hx),Nat.zero_le _⟩
 ·have hlm : len ≤ m:=by rw [hmm];split <;> omega
  have each : ∀ i,i < len → ∃ q : α × List Value,q.2.length = d.sz ∧ d.K w q.1 q.2 ∧ good q.1 ∧ ∀ k u,q.2[k]? = some u → w.cell? (a.add (i * d.sz + k)) = some u:=by
   intro i hi
   obtain ⟨cs',h1,h2⟩:=hx i (by omega)
   rw [hsz] at h1
   obtain ⟨_,hlen,hcell⟩:=World.cells?_some h1
   obtain ⟨x,hk,hg⟩:=helem n cs' _ hlen h2
   refine ⟨(x,cs'),hlen,hk,hg,fun k u hu=>?_⟩
   have hk' : k < d.sz:=by rw [← hlen];exact (List.getElem?_eq_some_iff.1 hu).1
   rw [← Go.Deep.add_add,hcell k hk']
   exact hu
  have each' : ∀ i,i < len → ∃ q : Option (α × List Value),∃ z,q = some z ∧ z.2.length = d.sz ∧ d.K w z.1 z.2 ∧ good z.1 ∧ ∀ k u,z.2[k]? = some u → w.cell? (a.add (i * d.sz + k)) = some u:=fun i hi=>by
   obtain ⟨z,hz⟩:=each i hi
   exact ⟨some z,z,rfl,hz⟩
  obtain ⟨f,hf⟩:=Go.Deep.choose_lt each'
  let x0 : α:=default
  let g : Nat → α:=fun i=>match f i with
   | some z=>z.1
   | none=>x0
  have hg : ∀ i,i < len → ∃ z,f i = some z ∧ g i = z.1:=fun i hi=>by
   obtain ⟨z,hz,_⟩:=hf i hi
   exact ⟨z,hz,by show (match f i with | some z=>z.1 | none=>x0) = z.1;rw [hz]⟩
  refine ⟨some a,cap,(List.range len).map g,by simp,by simpa using hl,⟨rfl,?_,fun _=>⟨a,rfl,fun j p hj=>?_⟩⟩,fun x hx=>?_,?_⟩
  ·have : maxLen ≤ 9223372036854775807:=by decide
   simp
   omega
  ·have hjl : j < len:=by have:=(List.getElem?_eq_some_iff.1 hj).1;simpa using this
   obtain ⟨z,hz,hgz⟩:=hg j hjl
   obtain ⟨z',hz',hlen,hk,_,hc⟩:=hf j hjl
   have ez : z' = z:=by rw [hz] at hz';exact (Option.some.inj hz').symm
   subst ez
   have ep : p = z'.1:=by
    have : ((List.range len).map g)[j]? = some (g j):=by simp [hjl]
    rw [this] at hj
    rw [← Option.some.inj hj,hgz]
   rw [ep]
   exact ⟨z'.2,hlen,hk,hc⟩
  ·obtain ⟨i,hi,rfl⟩:=List.mem_map.1 hx
   have hil : i < len:=List.mem_range.1 hi
   obtain ⟨z,hz,hgz⟩:=hg i hil
   obtain ⟨z',hz',_,_,hgood,_⟩:=hf i hil
   have ez : z' = z:=by rw [hz] at hz';exact (Option.some.inj hz').symm
   subst ez
   rw [hgz]
   exact hgood
  ·simp
   omega
theorem open_text {P : Program} {e : TypeId} (he : P.underlying e = some .string) {fuel : Nat} {cs : List Value} {y : DataW H × List MemPlace} (h : DataW.trod enc P w base spare held fuel e cs = some y) : ∃ s : ByteArray,cs = [.string s] ∧ s.size ≤ maxLen:=by
 obtain ⟨s,rfl,_,hw⟩:=DataW.trod_string he h
 exact ⟨s,rfl,hw⟩
theorem open_texts {P : Program} {t e : TypeId} (ht : P.underlying t = some (.slice e)) (he : P.underlying e = some .string) (hsz : P.cellsOf e = 1) {fuel : Nat} {cs : List Value} {y : DataW H × List MemPlace}
  (h : DataW.trod enc P w base spare held fuel t cs = some y) : ∃ A c xs,cs = [.slice A xs.length c] ∧ xs.length ≤ c ∧ Kd.C Kd.string w A xs.length xs ∧ (∀ x ∈ xs,x.size ≤ maxLen) ∧ xs.length ≤ maxLen :=
 open_C Kd.string ht hsz (fun x=>x.size ≤ maxLen) (fun n cs y _ hy=>by
  obtain ⟨s,rfl,hs⟩:=open_text he hy
  exact ⟨s,rfl,hs⟩) h
theorem open_struct {P : Program} {t : TypeId} {fs : Array Field} {cs : List Value} {fuel : Nat} {y : DataW H × List MemPlace} (hs : P.underlying t = some (.struct fs)) (hone : oneCellFields P fs = true)
  (h : DataW.trod enc P w base spare held fuel t cs = some y) : cs.length = P.cellsOf t ∧ ∀ j f,fs[j]? = some f → ∃ n z,DataW.trod enc P w base spare held n f.type ((cs.drop j).take 1) = some z:=by
 obtain ⟨xs,m,_,_,hl,hxl,hf⟩:=DataW.trod_struct hs h
 refine ⟨hl,fun j f hj=>?_⟩
 have hjl : j < xs.length:=by rw [hxl];exact (Array.getElem?_eq_some_iff.1 hj).1
 have ht:=hf j f hj
 obtain ⟨o,k⟩:=hone_of hone j f hj
 rw [o,k] at ht
 exact ⟨m,xs[j],ht.trans (List.getElem?_eq_getElem hjl)⟩
end
end Go.Proofs.YtmlebgikdegjjaaGreatDoor.Od
