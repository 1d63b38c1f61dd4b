/- The contract of Snap.All's iterator: the definitions by rising keys. -/
import Derived.Test.YtmlebgikdegjjaaGreatDoorUa
import Derived.Test.YtmlebgikdegjjaaGreatDoorUb
set_option maxHeartbeats 16000000
set_option maxRecDepth 100000
namespace Go.Proofs.YtmlebgikdegjjaaGreatDoor.Hd
open Go.Maps Go.RowKit Go.Proofs.YtmlebgikdegjjaaGreatDoor.Rq Go.Proofs.YtmlebgikdegjjaaGreatDoorW.PrintWords Go.Proofs.YtmlebgikdegjjaaGreatDoorW.PrintLast Go.Proofs.YtmlebgikdegjjaaGreatDoorW.PrintMore Go.Proofs.YtmlebgikdegjjaaGreatDoor.PAll
attribute [local go_sem] max2_int min2_int max_two min_two max_three min_three max_four min_four
set_option linter.unusedVariables false
set_option linter.unusedSimpArgs false
attribute [local go_sem] Oper.semAt_some
def heldOf : DataW S34 → S34
 | .held d=>d
 | _=>z34
def valsM : DataW S34 → List S34
 | .map ms=>ms.map fun p=>heldOf p.2
 | _=>[]
theorem vals_len {w : World} {b : Nat} {M : DataW S34} (h : MapD w b M) : (valsM M).length = (keysM M).length:=by
 rw [keys_len h]
 obtain ⟨ms,rfl,_,_⟩:=h.strings
 show (ms.map _).length = ms.length
 rw [List.length_map]
theorem key_at {w : World} {b : Nat} {M : DataW S34} (h : MapD w b M) (x : Nat) (hx : x < (keysM M).length) (hv : x < (valsM M).length) :
  ((keysM M)[x]).size ≤ maxLen ∧ Maps.has M (KL (keysM M)[x]) = true ∧ ∀ z,M.atKey (KL (keysM M)[x]) z = .held (valsM M)[x]:=by
 have hel:=h.elems_
 obtain ⟨ms,rfl,hp,hs⟩:=h.strings
 have hm : x < ms.length:=by
  have : (valsM (.map ms)).length = ms.length:=by show (ms.map _).length = _;rw [List.length_map]
  omega
 have hmem:=List.getElem_mem hm
 obtain ⟨s,hs1,hs2⟩:=hs _ hmem
 have e1 : (keysM (.map ms))[x] = (⟨s.toArray⟩ : ByteArray):=by
  have h_ : keysM (.map ms) = ms.map fun p=>(⟨(strOf p.1).toArray⟩ : ByteArray):=by
   unfold keysM
   show List.map _ (List.map _ ms) = _
   rw [List.map_map]
   rfl
  rw [List.getElem_of_eq h_ hx,List.getElem_map,hs1]
  rfl
 have e2 : KL (⟨s.toArray⟩ : ByteArray) = ms[x].1:=by rw [hs1]
 have e3 : (valsM (.map ms))[x] = heldOf ms[x].2:=by
  rw [List.getElem_of_eq (show valsM (.map ms) = ms.map fun p=>heldOf p.2 from rfl) hv,List.getElem_map]
 have hat : ∀ z,(DataW.map ms).atKey ms[x].1 z = ms[x].2:=fun z=>WideAt.atKey_mem z (by rw [hs1];trivial) (apart_of_rising hp) hmem
 have hhas : Maps.has (.map ms) ms[x].1 = true:=has_true_of_atKey hat
 rw [e1,e2,e3]
 refine ⟨?_,hhas,fun z=>?_⟩
 ·show s.toArray.size ≤ maxLen
  rw [List.size_toArray]
  exact hs2
 ·obtain ⟨d,hd⟩:=hel _ hhas
  have : ms[x].2 = .held d:=(hat .nil).symm.trans (hd .nil)
  rw [hat z,this]
  rfl
theorem look_run {w : World} {b : Nat} {M : DataW S34} (h : MapD w b M) {s : ByteArray} (hs : s.size ≤ maxLen) {d : S34} (hat : ∀ z,M.atKey (KL s) z = .held d) :
  ∃ A c,(Instr.lookup 86 (.map (some b)) (.string s) false).run Tryz.prog w = .ok (.agg #[.int .i64 d.f0,.string d.f1,.string d.f2,.slice A d.f3.length c,.string d.f4,.string d.f5]) w ∧ d.f3.length ≤ c ∧ Kd.string.C w A d.f3.length d.f3:=by
 obtain ⟨D,ho,hr⟩:=h
 obtain ⟨v,ps,hrun,hv⟩:=ho.lookup keyed_ Tryz.underlying86 (zero_def w) (zd:=.held zDv) (zp:=[]) rfl (keyOf_ hs)
 have hv : DataW.held v = D.atKey (KL s) (.held zDv):=congrArg Prod.fst (Option.some.inj hv)
 rcases hr.look (KL s) with ⟨_,h2⟩ | ⟨_,_,v',d',h3,h4,A,c,e,hl,hC⟩
 ·rw [has_true_of_atKey hat] at h2
  cases h2
 ·have hd : d' = d:=by have:=(h4 .nil).symm.trans (hat .nil);injection this
  subst hd
  rw [h3] at hv
  injection hv with hv
  subst hv
  rw [e] at hrun
  exact ⟨A,c,hrun,hl,hC⟩
theorem meas2_ (x len : Nat) (h : x < len) : len - (intOf (.int .i64 ((x + 1 : Nat) : Int))).toNat < len - (intOf (.int .i64 (x : Int))).toNat:=by
 simp [intOf]
 omega
theorem meas_ (x len : Nat) (h : x < len) (hl : len ≤ 1000) : len - (intOf (.int .i64 (wrap64 ((x : Int) + 1)))).toNat < len - (intOf (.int .i64 (x : Int))).toNat:=by
 rw [IntWalk.wrap64_in _ (by omega)]
 exact meas2_ x len h
theorem it_seq (XM : Nat → Prop) (n : Nat) (hn : 6 ≤ n) (w : World) (gb g b : Nat) (M : DataW S34) (h1 : w.cell? ⟨gb,0,none⟩ = some (.pointer (some ⟨g,0,none⟩))) (h2 : w.cell? ⟨g,0,none⟩ = some (.map (some b))) (hm : MapD w b M) (hxm : ¬ XM b) (hz : Maps.size M ≤ 1000) (hv : ∀ d ∈ valsM M,d.f3.length ≤ 1000000) :
  SeqQ n Tryz.prog 105 #[.pointer (some ⟨gb,0,none⟩)] encE (KpR XM) (Qe fun d=>d ∈ valsM M) (fun xs=>xs.map (·.1) = valsM M) (fun pre=>pre.map (·.1) <+: valsM M) (valsM M).length w:=by
 intro l J Jx W hW hJ hJx hY h0
 have c1:=pC hW h1
 have c2:=pC hW h2
 have hmW:=hm.below hW
 have HKL:=As.mk (show (keysM M).length ≤ 1000 by rw [keys_len hm];exact hz)
 have HVL:=As.mk (vals_len hm)
 clear h1 h2 hW
 have hu34:=Tryz.underlying34
 have hn1 : 1 ≤ n - 1:=by omega
 have hn0 : 1 ≤ n:=by omega
 have hf0 : Fence.wide.fn 65:=trivial
 have hf1 : Fence.wide.fn 106:=trivial
 have hf2 : Fence.wide.fn 93:=trivial
 have hf3 : Fence.wide.fn 61:=trivial
 refine callsIn_of_wp Tryz.func105 rfl trivial ?_ rfl
 simp only [Tryz.ntmps105,List.size_toArray,List.length_cons,List.length_nil,Nat.reduceAdd,Nat.reduceSub,Array.replicate_succ,Array.replicate_zero,List.push_toArray,List.append_toArray,List.nil_append,List.cons_append]
 gi_wp2_with (first
  | (gi_at_call 65;refine (callsIn_wide.2 (all_some _ g b c2)).mono ?_;rintro e w1 ⟨rfl,hw_⟩;rw [hw_])
  | (gi_at_call 106;refine (callsIn_wide.2 (callsIn_wide.1 (Tryz.maps_Keys_106 _ _))).mono ?_;rintro e w2 ⟨rfl,rfl⟩)
  | (gi_at_call 93;refine (callsIn_wide.2 (callsIn_wide.1 (sorted_calls _ b M hmW hz))).mono ?_;rintro e w3 ⟨Ak,ck,rfl,hCk,hbk⟩))
 have hb3 : Below W.heap.size W w3:=below_then (bA (Below.refl _ W) _) (bA (Below.refl _ W) _).size hbk
 have d1:=pC hb3 c1
 have d2:=pC hb3 c2
 have hm3:=hmW.below hb3
 have hJ3 : J [] w3:=hJ _ _ _ none h0 (grown_of_below hb3 none) (fun r e=>by cases e)
 have hsz3 : W.heap.size ≤ w3.heap.size:=hb3.size
 have HCK:=As.mk hCk
 have HJ:=As.mk hJ
 have HJX:=As.mk hJx
 have HY:=As.mk hY
 have HM3:=As.mk hm3
 have HV:=As.mk hv
 clear hCk hJ hJx hY hm3 hv hb3 hbk hmW hm c1 c2 h0 hz
 gi_loopw [10] (fun i wr=>∃ (x : Nat) (pre : List El),i = .int .i64 (x : Int) ∧ x ≤ (keysM M).length ∧ As (pre.map (·.1) = (valsM M).take x) ∧ As (J pre wr) ∧ As (KpR XM w3 wr)) (fun i _=>(keysM M).length - (intOf i).toNat)
 case atStart=>exact ⟨0,[],rfl,Nat.zero_le _,⟨rfl⟩,⟨hJ3⟩,⟨KpR.below (Below.refl _ _)⟩⟩
 case round =>
  obtain ⟨x,pre,rfl,p1,HPRE,HJP,HKP⟩:=hrel
  by_cases hlt : x < (keysM M).length
  ·have hm:=HM3.out.kp HKP.out hxm
   have hvx : x < (valsM M).length:=by have:=HVL.out;omega
   obtain ⟨k1,k2,k3⟩:=key_at HM3.out x hlt hvx
   obtain ⟨ky,hky⟩ : ∃ ky,ky = (keysM M)[x]:=⟨_,rfl⟩
   obtain ⟨d,hd⟩ : ∃ d,d = (valsM M)[x]:=⟨_,rfl⟩
   rw [← hky,← hd] at k3
   rw [← hky] at k1
   obtain ⟨A2,c2,hlook,hl2,hC2⟩:=look_run hm k1 k3
   obtain ⟨ad,e_,q0⟩:=Kd.at_string HCK.out (x : Int) (by omega) (by omega)
   rw [rdOf_at _ x hlt,← hky,Int.toNat_natCast] at q0
   subst e_
   have q1:=HKP.out.cell _ _ q0 rfl
   have e1:=HKP.out.cell _ _ d1 rfl
   have e2:=HKP.out.cell _ _ d2 rfl
   have HL2:=As.mk hl2
   have HC2:=As.mk hC2
   have HD:=As.mk hd
   have HPL:=As.mk (show pre.length = x by have h_:=congrArg List.length HPRE.out;rw [List.length_map,List.length_take] at h_;omega)
   have HX:=As.mk (show x < (valsM M).length ∧ x < (keysM M).length ∧ (keysM M).length ≤ 1000 from ⟨hvx,hlt,HKL.out⟩)
   have HMEM:=As.mk (show d ∈ valsM M by rw [hd];exact List.getElem_mem hvx)
   have HDV:=As.mk (show d.f3.length ≤ 1000000 from HV.out d (by rw [hd];exact List.getElem_mem hvx))
   have c0_ : decide ((x : Int) < ((keysM M).length : Int)) = true:=decide_eq_true (by omega)
   have p1_ : ((x : Int) < ((keysM M).length : Int)) = True:=eq_true (by omega)
   have p2_ : (x < (keysM M).length) = True:=eq_true hlt
   have hw1 : wrap64 ((x : Int) + 1) = ((x + 1 : Nat) : Int):=by rw [IntWalk.wrap64_in _ (by have:=HKL.out;omega)];omega
   clear hm k1 k2 k3 hky hd hl2 hC2 q0
   gi_wp2_with (first
    | (gi_at_call 61;refine (callsIn_wide.2 (clone_calls _ d A2 c2 HL2.out HC2.out HDV.out)).mono ?_;rintro e wc ⟨A3,c3,rfl,hl3,hC3,hbc⟩;have HJC:=As.mk (HJ.out _ _ _ none HJP.out (grown_of_below hbc none) (fun r e=>by cases e));obtain ⟨fn,tmps,assign,body,hy,hR⟩:=HY.out pre (d,A3,c3) wc HJC.out ⟨HMEM.out,hl3,hC3⟩ (by have:=HX.out;have:=HPL.out;omega);dsimp only [encE] at hy))
   refine hR.mono ?_
   rintro e W3 (⟨rfl,hJ4,hk4⟩ | ⟨rfl,hJx4⟩)
   ·gi_wp2
    go_roundw
    case rel=>exact ⟨x + 1,pre ++ [(d,A3,c3)],(by first | (rw [hw1];done) | rfl),HX.out.2.1,⟨by rw [List.map_append,HPRE.out,List.take_succ_eq_append_getElem HX.out.1,HD.out];rfl⟩,⟨hJ4⟩,⟨(HKP.out.trans (KpR.below hbc)).trans hk4⟩⟩
    case measure=>first | exact meas_ x _ HX.out.2.1 HX.out.2.2 | exact meas2_ x _ HX.out.2.1
   ·gi_wp2
    refine bodyPost_ret (results_none rfl _ _ _) rfl ?_
    exact ⟨⟨_,rfl⟩,.inr ⟨_,by rw [List.map_append,HPRE.out,show List.map (·.1) [(d,A3,c3)] = [d] from rfl,HD.out,← List.take_succ_eq_append_getElem HX.out.1];exact List.take_prefix _ _,hJx4⟩⟩
  ·have c0_ : decide ((x : Int) < ((keysM M).length : Int)) = false:=decide_eq_false (by omega)
   have c1_ : ((x : Int) < ((keysM M).length : Int)) = False:=eq_false (by omega)
   have c2_ : (x < (keysM M).length) = False:=eq_false hlt
   have hxe : x = (keysM M).length:=by omega
   gi_wp2
   go_end0
   exact ⟨⟨_,rfl⟩,.inl ⟨pre,by rw [HPRE.out,hxe,← HVL.out,List.take_length],HJP.out⟩⟩
end Go.Proofs.YtmlebgikdegjjaaGreatDoor.Hd
