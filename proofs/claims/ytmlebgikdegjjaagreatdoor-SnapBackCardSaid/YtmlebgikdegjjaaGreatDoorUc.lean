/- The contract of Snap.All's iterator: the definitions by rising keys. -/
import Derived.Test.YtmlebgikdegjjaaGreatDoorUa
import Derived.Test.YtmlebgikdegjjaaGreatDoorUb
namespace Go.Proofs.YtmlebgikdegjjaaGreatDoor.Hd
open Go.Maps Go.RowKit Go.Proofs.YtmlebgikdegjjaaGreatDoor.Rq Go.Proofs.YtmlebgikdegjjaaGreatDoorW.PrintWords Go.Proofs.YtmlebgikdegjjaaGreatDoorW.PrintLast Go.Proofs.YtmlebgikdegjjaaGreatDoorW.PrintMore Go.Proofs.YtmlebgikdegjjaaGreatDoor.PAll
attribute [local go_sem] max2_int min2_int max_two min_two max_three min_three max_four min_four
set_option linter.unusedVariables false
set_option linter.unusedSimpArgs false
attribute [local go_sem] Oper.semAt_some
def heldOf : DataW S34 → S34
 | .held d=>d
 | _=>z34
def valsM : DataW S34 → List S34
 | .map ms=>ms.map fun p=>heldOf p.2
 | _=>[]
theorem vals_len {w : World} {b : Nat} {M : DataW S34} (h : MapD w b M) : (valsM M).length = (keysM M).length:=by
 rw [keys_len h]
 obtain ⟨ms,rfl,_,_⟩:=h.strings
 show (ms.map _).length = ms.length
 rw [List.length_map]
theorem key_at {w : World} {b : Nat} {M : DataW S34} (h : MapD w b M) (x : Nat) (hx : x < (keysM M).length) (hv : x < (valsM M).length) :
  ((keysM M)[x]).size ≤ maxLen ∧ Maps.has M (KL (keysM M)[x]) = true ∧ ∀ z,M.atKey (KL (keysM M)[x]) z = .held (valsM M)[x]:=by
 have hel:=h.elems_
 obtain ⟨ms,rfl,hp,hs⟩:=h.strings
 have hm : x < ms.length:=by
  have : (valsM (.map ms)).length = ms.length:=by show (ms.map _).length = _;rw [List.length_map]
  omega
 have hmem:=List.getElem_mem hm
 obtain ⟨s,hs1,hs2⟩:=hs _ hmem
 have e1 : (keysM (.map ms))[x] = (⟨s.toArray⟩ : ByteArray):=by
  have h_ : keysM (.map ms) = ms.map fun p=>(⟨(strOf p.1).toArray⟩ : ByteArray):=by
   unfold keysM
   show List.map _ (List.map _ ms) = _
   rw [List.map_map]
   rfl
  rw [List.getElem_of_eq h_ hx,List.getElem_map,hs1]
  rfl
 have e2 : KL (⟨s.toArray⟩ : ByteArray) = ms[x].1:=by rw [hs1]
 have e3 : (valsM (.map ms))[x] = heldOf ms[x].2:=by
  rw [List.getElem_of_eq (show valsM (.map ms) = ms.map fun p=>heldOf p.2 from rfl) hv,List.getElem_map]
 have hat : ∀ z,(DataW.map ms).atKey ms[x].1 z = ms[x].2:=fun z=>WideAt.atKey_mem z (by rw [hs1];trivial) (apart_of_rising hp) hmem
 have hhas : Maps.has (.map ms) ms[x].1 = true:=has_true_of_atKey hat
 rw [e1,e2,e3]
 refine ⟨?_,hhas,fun z=>?_⟩
 ·show s.toArray.size ≤ maxLen
  rw [List.size_toArray]
  exact hs2
 ·obtain ⟨d,hd⟩:=hel _ hhas
  have : ms[x].2 = .held d:=(hat .nil).symm.trans (hd .nil)
  rw [hat z,this]
  rfl
theorem look_run {w : World} {b : Nat} {M : DataW S34} (h : MapD w b M) {s : ByteArray} (hs : s.size ≤ maxLen) {d : S34} (hat : ∀ z,M.atKey (KL s) z = .held d) :
  ∃ A c,(Instr.lookup 86 (.map (some b)) (.string s) false).run Tryz.prog w = .ok (.agg #[.int .i64 d.f0,.string d.f1,.string d.f2,.slice A d.f3.length c,.string d.f4,.string d.f5]) w ∧ d.f3.length ≤ c ∧ Kd.string.C w A d.f3.length d.f3:=by
 obtain ⟨D,ho,hr⟩:=h
 obtain ⟨v,ps,hrun,hv⟩:=ho.lookup keyed_ Tryz.underlying86 (zero_def w) (zd:=.held zDv) (zp:=[]) rfl (keyOf_ hs)
 have hv : DataW.held v = D.atKey (KL s) (.held zDv):=congrArg Prod.fst (Option.some.inj hv)
 rcases hr.look (KL s) with ⟨_,h2⟩ | ⟨_,_,v',d',h3,h4,A,c,e,hl,hC⟩
 ·rw [has_true_of_atKey hat] at h2
  cases h2
 ·have hd : d' = d:=by have:=(h4 .nil).symm.trans (hat .nil);injection this
  subst hd
  rw [h3] at hv
  injection hv with hv
  subst hv
  rw [e] at hrun
  exact ⟨A,c,hrun,hl,hC⟩
theorem meas2_ (x len : Nat) (h : x < len) : len - (intOf (.int .i64 ((x + 1 : Nat) : Int))).toNat < len - (intOf (.int .i64 (x : Int))).toNat:=by
 simp [intOf]
 omega
theorem meas_ (x len : Nat) (h : x < len) (hl : len ≤ 1000) : len - (intOf (.int .i64 (wrap64 ((x : Int) + 1)))).toNat < len - (intOf (.int .i64 (x : Int))).toNat:=by
 rw [IntWalk.wrap64_in _ (by omega)]
 exact meas2_ x len h
end Go.Proofs.YtmlebgikdegjjaaGreatDoor.Hd
