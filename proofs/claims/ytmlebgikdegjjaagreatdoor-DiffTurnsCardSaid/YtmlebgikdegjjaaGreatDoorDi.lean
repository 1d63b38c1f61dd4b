/- DiffTurns, walked. -/
import Derived.Test.YtmlebgikdegjjaaGreatDoorDe
import Derived.Test.YtmlebgikdegjjaaGreatDoorDg
import Derived.Test.YtmlebgikdegjjaaGreatDoorDh
import Derived.Test.YtmlebgikdegjjaaGreatDoorPAllx14
import Derived.Test.YtmlebgikdegjjaaGreatDoorPAllx15
set_option maxHeartbeats 16000000
set_option maxRecDepth 100000
namespace Go.Proofs.YtmlebgikdegjjaaGreatDoor.Hd
open Go.Maps Go.RowKit Go.Proofs.YtmlebgikdegjjaaGreatDoorW.PrintWords Go.Proofs.YtmlebgikdegjjaaGreatDoorW.PrintLast Go.Proofs.YtmlebgikdegjjaaGreatDoorW.PrintMore Go.Proofs.YtmlebgikdegjjaaGreatDoor.PAll
attribute [local go_sem] max2_int min2_int max_two min_two max_three min_three max_four min_four
set_option linter.unusedVariables false
set_option linter.unusedSimpArgs false
theorem turns_great (k : Nat) (w : World) (hmx : Nm.MaxOk w) (A0 : Option Addr) (c0 : Nat) (l : List S82) (hr : Kd.C k82 w A0 l.length l) (hc : l.length ≤ c0) (hs : r09_Small.f k l = some false) :
  Calls Tryz.prog 4 #[.slice A0 l.length c0] w fun e w'=>e = .returned (.bool true) ∧ Below w.heap.size w w':=by
 have HC:=As.mk hr
 have HC0:=As.mk hc
 have HMX:=As.mk hmx
 have HB:=As.mk (Below.refl w.heap.size w)
 have HS:=As.mk hs
 clear hr hc hmx hs
 go_enter Tryz.func4,Tryz.ntmps4
 go_wp2_with (first | (go_at_call 26;(with_reducible refine (awake09_calls _).mono ?_);rintro e wa ⟨rfl,hb_⟩;have n_HB:=As.mk (bS HB.out hb_);have n_HC:=As.mk (Kd.C_below HC.out hb_);have n_HMX:=As.mk (HMX.out.below hb_);clear hb_ HB HC HMX;have HB:=n_HB;have HC:=n_HC;have HMX:=n_HMX;clear n_HB n_HC n_HMX) | (go_at_call 27;(with_reducible refine (r09_Small.calls k A0 c0 l _ _ HC.out HC0.out HS.out).mono ?_);rintro e wb ⟨rfl,hb_⟩;have n_HB:=As.mk (bS HB.out hb_);have n_HC:=As.mk (Kd.C_below HC.out hb_);have n_HMX:=As.mk (HMX.out.below hb_);clear hb_ HB HC HMX;have HB:=n_HB;have HC:=n_HC;have HMX:=n_HMX;clear n_HB n_HC n_HMX))
 go_ret
 exact ⟨rfl,HB.out⟩
theorem turns_go (sp : ByteArray → Bool) (sd : List S34 → ByteArray → Bool) (sm : S34 → S34 → Bool) (k : Nat) (w : World) (hmx : Nm.MaxOk w) (A0 : Option Addr) (c0 : Nat) (l : List S82) (hr : Kd.C k82 w A0 l.length l) (hc : l.length ≤ c0) (hs : r09_Small.f k l = some true) (hl : l.length ≤ 1000000)
  (hv : ∀ x ∈ l,(x.f1.length ≤ 1000000 ∧ ∀ d ∈ x.f1,d.f3.length ≤ 1000000) ∧ x.f2.length ≤ 1000000 ∧ ∀ d ∈ x.f2,d.f3.length ≤ 1000000)
  (hE : ∀ x ∈ l,Edk k sp sd sm x) (hE' : ∀ x ∈ turnP l,Edk k sp sd sm x) (hsm : r09_Same.f k l l = some true) (hrt : rightO sp sd sm (some ⟨#[]⟩) l = rightO sp sd sm (some ⟨#[]⟩) (turnP l)) :
  Calls Tryz.prog 4 #[.slice A0 l.length c0] w fun e w'=>e = .returned (.bool true) ∧ Below w.heap.size w w':=by
 have HC:=As.mk hr
 have HC0:=As.mk hc
 have HMX:=As.mk hmx
 have HB:=As.mk (Below.refl w.heap.size w)
 have HS:=As.mk hs
 have HL:=As.mk hl
 have HV:=As.mk hv
 have HE:=As.mk hE
 obtain ⟨q,hq⟩ : ∃ q,q = turnP l:=⟨_,rfl⟩
 have hql : q.length = l.length:=by rw [hq,turnP_len]
 have hqq : turnP q = l:=by
  rw [hq]
  unfold turnP
  rw [List.map_map]
  exact List.map_id l
 have hvq : ∀ x ∈ q,(x.f1.length ≤ 1000000 ∧ ∀ d ∈ x.f1,d.f3.length ≤ 1000000) ∧ x.f2.length ≤ 1000000 ∧ ∀ d ∈ x.f2,d.f3.length ≤ 1000000:=fun x hx=>by
  rw [hq] at hx
  obtain ⟨y,hy,rfl⟩:=List.mem_map.1 hx
  exact ⟨(hv y hy).2,(hv y hy).1⟩
 rw [← hq] at hE' hrt
 have HQE:=As.mk hq
 have HVQ:=As.mk hvq
 have HEQ:=As.mk hE'
 have HLQ:=As.mk (show q.length ≤ 1000000 by rw [hql];exact hl)
 have HSM:=As.mk (show r09_Same.f k (turnP q) l = some true by rw [hqq];exact hsm)
 obtain ⟨bv,hbv⟩ : ∃ bv,bv = rightO sp sd sm (some ⟨#[]⟩) l:=⟨_,rfl⟩
 rw [← hbv] at hrt
 have HB1:=As.mk hbv
 have HB2:=As.mk hrt
 have z1 : ((q.length : Int) == (l.length : Int)) = true:=beq_iff_eq.mpr (by rw [hql])
 have z2 : (bv == bv) = true:=beq_self_eq_true bv
 clear hr hc hmx hs hl hv hE hE' hsm hrt hbv hq hql hqq hvq
 go_enter Tryz.func4,Tryz.ntmps4
 cases bv with
 | false =>
  go_wp2_with (first | (go_at_call 26;(with_reducible refine (awake09_calls _).mono ?_);rintro e wa ⟨rfl,hb_⟩;have n_HB:=As.mk (bS HB.out hb_);have n_HC:=As.mk (Kd.C_below HC.out hb_);have n_HMX:=As.mk (HMX.out.below hb_);clear hb_ HB HC HMX;have HB:=n_HB;have HC:=n_HC;have HMX:=n_HMX;clear n_HB n_HC n_HMX) | (go_at_call 27;(with_reducible refine (r09_Small.calls k A0 c0 l _ _ HC.out HC0.out HS.out).mono ?_);rintro e wb ⟨rfl,hb_⟩;have n_HB:=As.mk (bS HB.out hb_);have n_HC:=As.mk (Kd.C_below HC.out hb_);have n_HMX:=As.mk (HMX.out.below hb_);clear hb_ HB HC HMX;have HB:=n_HB;have HC:=n_HC;have HMX:=n_HMX;clear n_HB n_HC n_HMX) | (go_at_call 28;(with_reducible refine (turn_calls _ A0 c0 l HC.out HC0.out HL.out HV.out).mono ?_);rintro e wc ⟨vq,rfl,ho_,hb_⟩;rw [← HQE.out] at ho_;obtain ⟨Aq,cq,rfl⟩:=Kd.N_slice ho_;have HQ:=As.mk ho_;clear ho_;have n_HB:=As.mk (bS HB.out hb_);have n_HC:=As.mk (Kd.C_below HC.out hb_);have n_HMX:=As.mk (HMX.out.below hb_);clear hb_ HB HC HMX;have HB:=n_HB;have HC:=n_HC;have HMX:=n_HMX;clear n_HB n_HC n_HMX) | (go_at_call 28;(with_reducible refine (turn_calls _ Aq cq q (Kd.N_reads' HQ.out).2.2 (Kd.N_reads' HQ.out).2.1 HLQ.out HVQ.out).mono ?_);rintro e wd ⟨vp,rfl,ho_,hb_⟩;obtain ⟨Ap,cp,rfl⟩:=Kd.N_slice ho_;have HP:=As.mk ho_;clear ho_;have n_HB:=As.mk (bS HB.out hb_);have n_HC:=As.mk (Kd.C_below HC.out hb_);have n_HMX:=As.mk (HMX.out.below hb_);have n_HQ:=As.mk (Kd.N_below HQ.out hb_);clear hb_ HB HC HMX HQ;have HB:=n_HB;have HC:=n_HC;have HMX:=n_HMX;have HQ:=n_HQ;clear n_HB n_HC n_HMX n_HQ) | (go_at_call 29;(with_reducible refine (r09_Same.calls k Ap cp (turnP q) A0 c0 l _ _ (Kd.N_reads' HP.out).2.2 (Kd.N_reads' HP.out).2.1 HC.out HC0.out HSM.out).mono ?_);rintro e we ⟨rfl,hb_⟩;have n_HB:=As.mk (bS HB.out hb_);have n_HC:=As.mk (Kd.C_below HC.out hb_);have n_HMX:=As.mk (HMX.out.below hb_);have n_HQ:=As.mk (Kd.N_below HQ.out hb_);clear hb_ HB HC HMX HQ;have HB:=n_HB;have HC:=n_HC;have HMX:=n_HMX;have HQ:=n_HQ;clear n_HB n_HC n_HMX n_HQ) | (go_at_call 30;(with_reducible refine (right_calls sp sd sm k _ HMX.out A0 c0 l HC.out HL.out HE.out).mono ?_);rintro e wf ⟨he_,hb_⟩;rw [← HB1.out] at he_;subst he_;have n_HB:=As.mk (bS HB.out hb_);have n_HC:=As.mk (Kd.C_below HC.out hb_);have n_HMX:=As.mk (HMX.out.below hb_);have n_HQ:=As.mk (Kd.N_below HQ.out hb_);clear hb_ HB HC HMX HQ;have HB:=n_HB;have HC:=n_HC;have HMX:=n_HMX;have HQ:=n_HQ;clear n_HB n_HC n_HMX n_HQ) | (go_at_call 30;(with_reducible refine (right_calls sp sd sm k _ HMX.out Aq cq q (Kd.N_reads' HQ.out).2.2 HLQ.out HEQ.out).mono ?_);rintro e wg ⟨he_,hb_⟩;rw [← HB2.out] at he_;subst he_;have n_HB:=As.mk (bS HB.out hb_);have n_HC:=As.mk (Kd.C_below HC.out hb_);have n_HMX:=As.mk (HMX.out.below hb_);have n_HQ:=As.mk (Kd.N_below HQ.out hb_);clear hb_ HB HC HMX HQ;have HB:=n_HB;have HC:=n_HC;have HMX:=n_HMX;have HQ:=n_HQ;clear n_HB n_HC n_HMX n_HQ))
  go_ret
  exact ⟨rfl,HB.out⟩
 | true =>
  go_wp2_with (first | (go_at_call 26;(with_reducible refine (awake09_calls _).mono ?_);rintro e wa ⟨rfl,hb_⟩;have n_HB:=As.mk (bS HB.out hb_);have n_HC:=As.mk (Kd.C_below HC.out hb_);have n_HMX:=As.mk (HMX.out.below hb_);clear hb_ HB HC HMX;have HB:=n_HB;have HC:=n_HC;have HMX:=n_HMX;clear n_HB n_HC n_HMX) | (go_at_call 27;(with_reducible refine (r09_Small.calls k A0 c0 l _ _ HC.out HC0.out HS.out).mono ?_);rintro e wb ⟨rfl,hb_⟩;have n_HB:=As.mk (bS HB.out hb_);have n_HC:=As.mk (Kd.C_below HC.out hb_);have n_HMX:=As.mk (HMX.out.below hb_);clear hb_ HB HC HMX;have HB:=n_HB;have HC:=n_HC;have HMX:=n_HMX;clear n_HB n_HC n_HMX) | (go_at_call 28;(with_reducible refine (turn_calls _ A0 c0 l HC.out HC0.out HL.out HV.out).mono ?_);rintro e wc ⟨vq,rfl,ho_,hb_⟩;rw [← HQE.out] at ho_;obtain ⟨Aq,cq,rfl⟩:=Kd.N_slice ho_;have HQ:=As.mk ho_;clear ho_;have n_HB:=As.mk (bS HB.out hb_);have n_HC:=As.mk (Kd.C_below HC.out hb_);have n_HMX:=As.mk (HMX.out.below hb_);clear hb_ HB HC HMX;have HB:=n_HB;have HC:=n_HC;have HMX:=n_HMX;clear n_HB n_HC n_HMX) | (go_at_call 28;(with_reducible refine (turn_calls _ Aq cq q (Kd.N_reads' HQ.out).2.2 (Kd.N_reads' HQ.out).2.1 HLQ.out HVQ.out).mono ?_);rintro e wd ⟨vp,rfl,ho_,hb_⟩;obtain ⟨Ap,cp,rfl⟩:=Kd.N_slice ho_;have HP:=As.mk ho_;clear ho_;have n_HB:=As.mk (bS HB.out hb_);have n_HC:=As.mk (Kd.C_below HC.out hb_);have n_HMX:=As.mk (HMX.out.below hb_);have n_HQ:=As.mk (Kd.N_below HQ.out hb_);clear hb_ HB HC HMX HQ;have HB:=n_HB;have HC:=n_HC;have HMX:=n_HMX;have HQ:=n_HQ;clear n_HB n_HC n_HMX n_HQ) | (go_at_call 29;(with_reducible refine (r09_Same.calls k Ap cp (turnP q) A0 c0 l _ _ (Kd.N_reads' HP.out).2.2 (Kd.N_reads' HP.out).2.1 HC.out HC0.out HSM.out).mono ?_);rintro e we ⟨rfl,hb_⟩;have n_HB:=As.mk (bS HB.out hb_);have n_HC:=As.mk (Kd.C_below HC.out hb_);have n_HMX:=As.mk (HMX.out.below hb_);have n_HQ:=As.mk (Kd.N_below HQ.out hb_);clear hb_ HB HC HMX HQ;have HB:=n_HB;have HC:=n_HC;have HMX:=n_HMX;have HQ:=n_HQ;clear n_HB n_HC n_HMX n_HQ) | (go_at_call 30;(with_reducible refine (right_calls sp sd sm k _ HMX.out A0 c0 l HC.out HL.out HE.out).mono ?_);rintro e wf ⟨he_,hb_⟩;rw [← HB1.out] at he_;subst he_;have n_HB:=As.mk (bS HB.out hb_);have n_HC:=As.mk (Kd.C_below HC.out hb_);have n_HMX:=As.mk (HMX.out.below hb_);have n_HQ:=As.mk (Kd.N_below HQ.out hb_);clear hb_ HB HC HMX HQ;have HB:=n_HB;have HC:=n_HC;have HMX:=n_HMX;have HQ:=n_HQ;clear n_HB n_HC n_HMX n_HQ) | (go_at_call 30;(with_reducible refine (right_calls sp sd sm k _ HMX.out Aq cq q (Kd.N_reads' HQ.out).2.2 HLQ.out HEQ.out).mono ?_);rintro e wg ⟨he_,hb_⟩;rw [← HB2.out] at he_;subst he_;have n_HB:=As.mk (bS HB.out hb_);have n_HC:=As.mk (Kd.C_below HC.out hb_);have n_HMX:=As.mk (HMX.out.below hb_);have n_HQ:=As.mk (Kd.N_below HQ.out hb_);clear hb_ HB HC HMX HQ;have HB:=n_HB;have HC:=n_HC;have HMX:=n_HMX;have HQ:=n_HQ;clear n_HB n_HC n_HMX n_HQ))
  go_ret
  exact ⟨rfl,HB.out⟩
end Go.Proofs.YtmlebgikdegjjaaGreatDoor.Hd
