/- diff.Right: is a patch right? -/
import Derived.Test.YtmlebgikdegjjaaGreatDoorDg
import Derived.Test.YtmlebgikdegjjaaGreatDoorDa
import Derived.Test.YtmlebgikdegjjaaGreatDoorPAllx16
import Derived.Test.YtmlebgikdegjjaaGreatDoorPAllx16
set_option maxHeartbeats 16000000
set_option maxRecDepth 100000
namespace Go.Proofs.YtmlebgikdegjjaaGreatDoor.Hd
open Go.Maps Go.RowKit Go.Proofs.YtmlebgikdegjjaaGreatDoorW.PrintWords Go.Proofs.YtmlebgikdegjjaaGreatDoorW.PrintLast Go.Proofs.YtmlebgikdegjjaaGreatDoorW.PrintMore Go.Proofs.YtmlebgikdegjjaaGreatDoor.PAll
attribute [local go_sem] max2_int min2_int max_two min_two max_three min_three max_four min_four
set_option linter.unusedVariables false
set_option linter.unusedSimpArgs false
section
variable (sp : ByteArray → Bool) (sd : List S34 → ByteArray → Bool) (sm : S34 → S34 → Bool)
def rightO : Option ByteArray → List S82 → Bool
 | _,[]=>true
 | last,x :: r=>sp x.f0 && ((match last with | none=>true | some k=>ltK k x.f0) && (sd x.f1 x.f0 && (sd x.f2 x.f0 && (!alike sm x.f1 x.f2 && rightO (some x.f0) r))))
end
def Edk (k : Nat) (sp : ByteArray → Bool) (sd : List S34 → ByteArray → Bool) (sm : S34 → S34 → Bool) (x : S82) : Prop :=
 (∃ r1 r2,def_Split.f k x.f0 = some (r1,r2,sp x.f0)) ∧ diff_side.f k x.f1 x.f0 = some (sd x.f1 x.f0) ∧ diff_side.f k x.f2 x.f0 = some (sd x.f2 x.f0) ∧ x.f1.length ≤ 1000000 ∧
 (∀ a ∈ x.f1,∀ b ∈ x.f2,def_Same.f k a.f0 a.f1 a.f2 a.f3 a.f4 a.f5 b.f0 b.f1 b.f2 b.f3 b.f4 b.f5 = some (sm a b))
theorem right_calls (sp : ByteArray → Bool) (sd : List S34 → ByteArray → Bool) (sm : S34 → S34 → Bool) (k : Nat) (w : World) (hmx : Nm.MaxOk w) (A0 : Option Addr) (c0 : Nat) (l : List S82) (hr : Kd.C k82 w A0 l.length l) (hl : l.length ≤ 1000000) (hE : ∀ x ∈ l,Edk k sp sd sm x) :
  Calls Tryz.prog 30 #[.slice A0 l.length c0] w fun e w'=>e = .returned (.bool (rightO sp sd sm (some ⟨#[]⟩) l)) ∧ Below w.heap.size w w':=by
 have hu34:=Tryz.underlying34
 have hu82:=Tryz.underlying82
 have HL:=As.mk hl
 have HR:=As.mk hr
 have HMX0:=As.mk hmx
 have HE:=As.mk hE
 have HB:=As.mk (Below.refl w.heap.size w)
 obtain ⟨res,hres⟩ : ∃ res,res = rightO sp sd sm (some ⟨#[]⟩) l:=⟨_,rfl⟩
 rw [← hres]
 have HRES:=As.mk hres
 clear hr hl hmx hE hres
 go_enter Tryz.func30,Tryz.ntmps30
 go_wp2_with (fail)
 go_loopg [3,11] l.length (fun kq v3 v11 w'=>∃ (n : Nat) (last : ByteArray),v3 = .string last ∧ v11 = .int .i64 (n : Int) ∧ n ≤ l.length ∧ As (kq + n = l.length) ∧ As (res = rightO sp sd sm (some last) (l.drop n)) ∧ As (Below w.heap.size w w'))
 case atStart=>exact ⟨0,⟨#[]⟩,rfl,rfl,Nat.zero_le _,⟨rfl⟩,HRES,HB⟩
 case round =>
  clear HB HRES
  obtain ⟨n,last,rfl,rfl,p1,HKQ,HRES,HB⟩:=hrel
  by_cases hlt : n < l.length
  case neg =>
   have c0_ : decide ((n : Int) < (l.length : Int)) = false:=decide_eq_false (by omega)
   have h_:=HRES.out
   rw [List.drop_of_length_le (by omega)] at h_
   go_wp2_with (fail)
   go_ret
   exact ⟨by rw [h_];rfl,HB.out⟩
  case pos =>
   obtain ⟨ad,A1,c1,A2,c2,e_,q0,q1,q2,hl1,hC1,hl2,hC2⟩:=at_T82 (Kd.C_below HR.out HB.out) (n : Int) (by omega) (by omega)
   subst e_
   obtain ⟨x,hx⟩ : ∃ x,x = l[n]:=⟨_,rfl⟩
   rw [show rd_T82 l (n : Int) = x by rw [hx];unfold rd_T82;rw [Int.toNat_natCast,List.getD_eq_getElem?_getD,List.getElem?_eq_getElem hlt];rfl] at q0 q1 q2 hl1 hl2 hC1 hC2
   rw [Int.toNat_natCast] at q0 q1 q2
   have HC1:=As.mk hC1
   have HC2:=As.mk hC2
   have HL1:=As.mk hl1
   have HL2:=As.mk hl2
   have HMX:=As.mk (HMX0.out.below HB.out)
   obtain ⟨⟨r1,r2,hsp⟩,hs1,hs2,hle,hsm⟩:=HE.out x (by rw [hx];exact List.getElem_mem hlt)
   have hdr : l.drop n = x :: l.drop (n + 1):=by rw [hx];exact List.drop_eq_getElem_cons hlt
   have hnx:=HRES.out
   rw [hdr] at hnx
   have hnx : res = (sp x.f0 && (ltK last x.f0 && (sd x.f1 x.f0 && (sd x.f2 x.f0 && (!alike sm x.f1 x.f2 && rightO sp sd sm (some x.f0) (l.drop (n + 1))))))):=hnx
   obtain ⟨bsp,hbsp⟩ : ∃ b,b = sp x.f0:=⟨_,rfl⟩
   obtain ⟨blt,hblt⟩ : ∃ b,b = ltK last x.f0:=⟨_,rfl⟩
   obtain ⟨bs1,hbs1⟩ : ∃ b,b = sd x.f1 x.f0:=⟨_,rfl⟩
   obtain ⟨bs2,hbs2⟩ : ∃ b,b = sd x.f2 x.f0:=⟨_,rfl⟩
   obtain ⟨ba,hba⟩ : ∃ b,b = alike sm x.f1 x.f2:=⟨_,rfl⟩
   rw [← hbsp,← hblt,← hbs1,← hbs2,← hba] at hnx
   rw [← hbsp] at hsp
   rw [← hbs1] at hs1
   rw [← hbs2] at hs2
   have hlq : Op.bytesLess last.toList x.f0.toList = blt:=by rw [ltK_less,hblt]
   have HNX:=As.mk hnx
   have HSP:=As.mk hsp
   have HS1:=As.mk hs1
   have HS2:=As.mk hs2
   have HLE:=As.mk hle
   have HSM:=As.mk hsm
   have HBA:=As.mk hba
   have HX:=As.mk (show n < l.length ∧ l.length ≤ 1000000 from ⟨hlt,HL.out⟩)
   have c0_ : decide ((n : Int) < (l.length : Int)) = true:=decide_eq_true (by omega)
   have p1_ : ((n : Int) < (l.length : Int)) = True:=eq_true (by omega)
   have p2_ : (n < l.length) = True:=eq_true hlt
   have hw1 : wrap64 ((n : Int) + 1) = ((n + 1 : Nat) : Int):=by rw [IntWalk.wrap64_in _ (by have:=HX.out;omega)];omega
   clear hx hdr hnx hbsp hblt hbs1 hbs2 hba hsp hs1 hs2 hle hsm hl1 hl2 hC1 hC2 hlt p1 HRES
   go_upto_region 5 with (fail)
   have bk5:=blk_new wr (Obj.cells #[.string x.f0,.slice A1 x.f1.length c1,.slice A2 x.f2.length c2] 82)
   have hb_:=bA (Below.refl wr.heap.size wr) (Obj.cells #[.string x.f0,.slice A1 x.f1.length c1,.slice A2 x.f2.length c2] 82)
   generalize wr.alloc (Obj.cells #[.string x.f0,.slice A1 x.f1.length c1,.slice A2 x.f2.length c2] 82) = W1 at bk5 hb_ ⊢
   obtain ⟨g5,hg5⟩ : ∃ g5,g5 = wr.heap.size:=⟨_,rfl⟩
   rw [← hg5] at bk5 ⊢
   have b0 : W1.cell? ⟨g5,0,none⟩ = some (.string x.f0):=(bC bk5 0).trans rfl
   have b1 : W1.cell? ⟨g5,1,none⟩ = some (.slice A1 x.f1.length c1):=(bC bk5 1).trans rfl
   have b2 : W1.cell? ⟨g5,2,none⟩ = some (.slice A2 x.f2.length c2):=(bC bk5 2).trans rfl
   have n_HB:=As.mk (bS HB.out hb_)
   have n_HC1:=As.mk (Kd.C_below HC1.out hb_)
   have n_HC2:=As.mk (Kd.C_below HC2.out hb_)
   have n_HMX:=As.mk (HMX.out.below hb_)
   clear HB HC1 HC2 HMX hb_ bk5 hg5 q0 q1 q2
   have HB:=n_HB
   have HC1:=n_HC1
   have HC2:=n_HC2
   have HMX:=n_HMX
   clear n_HB n_HC1 n_HC2 n_HMX
   cases bsp with
   | false =>
    go_wp2_with (first | (go_at_call 72;(with_reducible refine (def_Split.calls k x.f0 r1 r2 _ _ HSP.out HMX.out).mono ?_);rintro e wa ⟨rfl,hb_⟩;have n_HB:=As.mk (bS HB.out hb_);have n_HC1:=As.mk (Kd.C_below HC1.out hb_);have n_HC2:=As.mk (Kd.C_below HC2.out hb_);have n_HMX:=As.mk (HMX.out.below hb_);have n_b0:=pC hb_ b0;have n_b1:=pC hb_ b1;have n_b2:=pC hb_ b2;clear b0 b1 b2 hb_ HB HC1 HC2 HMX;have HB:=n_HB;have HC1:=n_HC1;have HC2:=n_HC2;have HMX:=n_HMX;have b0:=n_b0;have b1:=n_b1;have b2:=n_b2;clear n_b0 n_b1 n_b2 n_HB n_HC1 n_HC2 n_HMX) | (go_at_call 73;(with_reducible refine (diff_side.calls k A1 c1 x.f1 x.f0 _ _ HC1.out HL1.out HS1.out).mono ?_);rintro e wb ⟨rfl,hb_⟩;clear HS1;have n_HB:=As.mk (bS HB.out hb_);have n_HC1:=As.mk (Kd.C_below HC1.out hb_);have n_HC2:=As.mk (Kd.C_below HC2.out hb_);have n_HMX:=As.mk (HMX.out.below hb_);have n_b0:=pC hb_ b0;have n_b1:=pC hb_ b1;have n_b2:=pC hb_ b2;clear b0 b1 b2 hb_ HB HC1 HC2 HMX;have HB:=n_HB;have HC1:=n_HC1;have HC2:=n_HC2;have HMX:=n_HMX;have b0:=n_b0;have b1:=n_b1;have b2:=n_b2;clear n_b0 n_b1 n_b2 n_HB n_HC1 n_HC2 n_HMX) | (go_at_call 73;(with_reducible refine (diff_side.calls k A2 c2 x.f2 x.f0 _ _ HC2.out HL2.out HS2.out).mono ?_);rintro e wc ⟨rfl,hb_⟩;clear HS2;have n_HB:=As.mk (bS HB.out hb_);have n_HC1:=As.mk (Kd.C_below HC1.out hb_);have n_HC2:=As.mk (Kd.C_below HC2.out hb_);have n_HMX:=As.mk (HMX.out.below hb_);have n_b0:=pC hb_ b0;have n_b1:=pC hb_ b1;have n_b2:=pC hb_ b2;clear b0 b1 b2 hb_ HB HC1 HC2 HMX;have HB:=n_HB;have HC1:=n_HC1;have HC2:=n_HC2;have HMX:=n_HMX;have b0:=n_b0;have b1:=n_b1;have b2:=n_b2;clear n_b0 n_b1 n_b2 n_HB n_HC1 n_HC2 n_HMX) | (go_at_call 74;(with_reducible refine (dsame_calls sm k _ A1 c1 x.f1 A2 c2 x.f2 HC1.out HC2.out HLE.out HSM.out).mono ?_);rintro e wd ⟨he_,hb_⟩;rw [← HBA.out] at he_;subst he_;have n_HB:=As.mk (bS HB.out hb_);have n_HC1:=As.mk (Kd.C_below HC1.out hb_);have n_HC2:=As.mk (Kd.C_below HC2.out hb_);have n_HMX:=As.mk (HMX.out.below hb_);have n_b0:=pC hb_ b0;have n_b1:=pC hb_ b1;have n_b2:=pC hb_ b2;clear b0 b1 b2 hb_ HB HC1 HC2 HMX;have HB:=n_HB;have HC1:=n_HC1;have HC2:=n_HC2;have HMX:=n_HMX;have b0:=n_b0;have b1:=n_b1;have b2:=n_b2;clear n_b0 n_b1 n_b2 n_HB n_HC1 n_HC2 n_HMX))
    go_ret
    exact ⟨by rw [HNX.out];rfl,HB.out⟩
   | true =>
    cases blt with
    | false =>
     go_wp2_with (first | (go_at_call 72;(with_reducible refine (def_Split.calls k x.f0 r1 r2 _ _ HSP.out HMX.out).mono ?_);rintro e wa ⟨rfl,hb_⟩;have n_HB:=As.mk (bS HB.out hb_);have n_HC1:=As.mk (Kd.C_below HC1.out hb_);have n_HC2:=As.mk (Kd.C_below HC2.out hb_);have n_HMX:=As.mk (HMX.out.below hb_);have n_b0:=pC hb_ b0;have n_b1:=pC hb_ b1;have n_b2:=pC hb_ b2;clear b0 b1 b2 hb_ HB HC1 HC2 HMX;have HB:=n_HB;have HC1:=n_HC1;have HC2:=n_HC2;have HMX:=n_HMX;have b0:=n_b0;have b1:=n_b1;have b2:=n_b2;clear n_b0 n_b1 n_b2 n_HB n_HC1 n_HC2 n_HMX) | (go_at_call 73;(with_reducible refine (diff_side.calls k A1 c1 x.f1 x.f0 _ _ HC1.out HL1.out HS1.out).mono ?_);rintro e wb ⟨rfl,hb_⟩;clear HS1;have n_HB:=As.mk (bS HB.out hb_);have n_HC1:=As.mk (Kd.C_below HC1.out hb_);have n_HC2:=As.mk (Kd.C_below HC2.out hb_);have n_HMX:=As.mk (HMX.out.below hb_);have n_b0:=pC hb_ b0;have n_b1:=pC hb_ b1;have n_b2:=pC hb_ b2;clear b0 b1 b2 hb_ HB HC1 HC2 HMX;have HB:=n_HB;have HC1:=n_HC1;have HC2:=n_HC2;have HMX:=n_HMX;have b0:=n_b0;have b1:=n_b1;have b2:=n_b2;clear n_b0 n_b1 n_b2 n_HB n_HC1 n_HC2 n_HMX) | (go_at_call 73;(with_reducible refine (diff_side.calls k A2 c2 x.f2 x.f0 _ _ HC2.out HL2.out HS2.out).mono ?_);rintro e wc ⟨rfl,hb_⟩;clear HS2;have n_HB:=As.mk (bS HB.out hb_);have n_HC1:=As.mk (Kd.C_below HC1.out hb_);have n_HC2:=As.mk (Kd.C_below HC2.out hb_);have n_HMX:=As.mk (HMX.out.below hb_);have n_b0:=pC hb_ b0;have n_b1:=pC hb_ b1;have n_b2:=pC hb_ b2;clear b0 b1 b2 hb_ HB HC1 HC2 HMX;have HB:=n_HB;have HC1:=n_HC1;have HC2:=n_HC2;have HMX:=n_HMX;have b0:=n_b0;have b1:=n_b1;have b2:=n_b2;clear n_b0 n_b1 n_b2 n_HB n_HC1 n_HC2 n_HMX) | (go_at_call 74;(with_reducible refine (dsame_calls sm k _ A1 c1 x.f1 A2 c2 x.f2 HC1.out HC2.out HLE.out HSM.out).mono ?_);rintro e wd ⟨he_,hb_⟩;rw [← HBA.out] at he_;subst he_;have n_HB:=As.mk (bS HB.out hb_);have n_HC1:=As.mk (Kd.C_below HC1.out hb_);have n_HC2:=As.mk (Kd.C_below HC2.out hb_);have n_HMX:=As.mk (HMX.out.below hb_);have n_b0:=pC hb_ b0;have n_b1:=pC hb_ b1;have n_b2:=pC hb_ b2;clear b0 b1 b2 hb_ HB HC1 HC2 HMX;have HB:=n_HB;have HC1:=n_HC1;have HC2:=n_HC2;have HMX:=n_HMX;have b0:=n_b0;have b1:=n_b1;have b2:=n_b2;clear n_b0 n_b1 n_b2 n_HB n_HC1 n_HC2 n_HMX))
     go_ret
     exact ⟨by rw [HNX.out];rfl,HB.out⟩
    | true =>
     cases bs1 with
     | false =>
      go_wp2_with (first | (go_at_call 72;(with_reducible refine (def_Split.calls k x.f0 r1 r2 _ _ HSP.out HMX.out).mono ?_);rintro e wa ⟨rfl,hb_⟩;have n_HB:=As.mk (bS HB.out hb_);have n_HC1:=As.mk (Kd.C_below HC1.out hb_);have n_HC2:=As.mk (Kd.C_below HC2.out hb_);have n_HMX:=As.mk (HMX.out.below hb_);have n_b0:=pC hb_ b0;have n_b1:=pC hb_ b1;have n_b2:=pC hb_ b2;clear b0 b1 b2 hb_ HB HC1 HC2 HMX;have HB:=n_HB;have HC1:=n_HC1;have HC2:=n_HC2;have HMX:=n_HMX;have b0:=n_b0;have b1:=n_b1;have b2:=n_b2;clear n_b0 n_b1 n_b2 n_HB n_HC1 n_HC2 n_HMX) | (go_at_call 73;(with_reducible refine (diff_side.calls k A1 c1 x.f1 x.f0 _ _ HC1.out HL1.out HS1.out).mono ?_);rintro e wb ⟨rfl,hb_⟩;clear HS1;have n_HB:=As.mk (bS HB.out hb_);have n_HC1:=As.mk (Kd.C_below HC1.out hb_);have n_HC2:=As.mk (Kd.C_below HC2.out hb_);have n_HMX:=As.mk (HMX.out.below hb_);have n_b0:=pC hb_ b0;have n_b1:=pC hb_ b1;have n_b2:=pC hb_ b2;clear b0 b1 b2 hb_ HB HC1 HC2 HMX;have HB:=n_HB;have HC1:=n_HC1;have HC2:=n_HC2;have HMX:=n_HMX;have b0:=n_b0;have b1:=n_b1;have b2:=n_b2;clear n_b0 n_b1 n_b2 n_HB n_HC1 n_HC2 n_HMX) | (go_at_call 73;(with_reducible refine (diff_side.calls k A2 c2 x.f2 x.f0 _ _ HC2.out HL2.out HS2.out).mono ?_);rintro e wc ⟨rfl,hb_⟩;clear HS2;have n_HB:=As.mk (bS HB.out hb_);have n_HC1:=As.mk (Kd.C_below HC1.out hb_);have n_HC2:=As.mk (Kd.C_below HC2.out hb_);have n_HMX:=As.mk (HMX.out.below hb_);have n_b0:=pC hb_ b0;have n_b1:=pC hb_ b1;have n_b2:=pC hb_ b2;clear b0 b1 b2 hb_ HB HC1 HC2 HMX;have HB:=n_HB;have HC1:=n_HC1;have HC2:=n_HC2;have HMX:=n_HMX;have b0:=n_b0;have b1:=n_b1;have b2:=n_b2;clear n_b0 n_b1 n_b2 n_HB n_HC1 n_HC2 n_HMX) | (go_at_call 74;(with_reducible refine (dsame_calls sm k _ A1 c1 x.f1 A2 c2 x.f2 HC1.out HC2.out HLE.out HSM.out).mono ?_);rintro e wd ⟨he_,hb_⟩;rw [← HBA.out] at he_;subst he_;have n_HB:=As.mk (bS HB.out hb_);have n_HC1:=As.mk (Kd.C_below HC1.out hb_);have n_HC2:=As.mk (Kd.C_below HC2.out hb_);have n_HMX:=As.mk (HMX.out.below hb_);have n_b0:=pC hb_ b0;have n_b1:=pC hb_ b1;have n_b2:=pC hb_ b2;clear b0 b1 b2 hb_ HB HC1 HC2 HMX;have HB:=n_HB;have HC1:=n_HC1;have HC2:=n_HC2;have HMX:=n_HMX;have b0:=n_b0;have b1:=n_b1;have b2:=n_b2;clear n_b0 n_b1 n_b2 n_HB n_HC1 n_HC2 n_HMX))
      go_ret
      exact ⟨by rw [HNX.out];rfl,HB.out⟩
     | true =>
      cases bs2 with
      | false =>
       go_wp2_with (first | (go_at_call 72;(with_reducible refine (def_Split.calls k x.f0 r1 r2 _ _ HSP.out HMX.out).mono ?_);rintro e wa ⟨rfl,hb_⟩;have n_HB:=As.mk (bS HB.out hb_);have n_HC1:=As.mk (Kd.C_below HC1.out hb_);have n_HC2:=As.mk (Kd.C_below HC2.out hb_);have n_HMX:=As.mk (HMX.out.below hb_);have n_b0:=pC hb_ b0;have n_b1:=pC hb_ b1;have n_b2:=pC hb_ b2;clear b0 b1 b2 hb_ HB HC1 HC2 HMX;have HB:=n_HB;have HC1:=n_HC1;have HC2:=n_HC2;have HMX:=n_HMX;have b0:=n_b0;have b1:=n_b1;have b2:=n_b2;clear n_b0 n_b1 n_b2 n_HB n_HC1 n_HC2 n_HMX) | (go_at_call 73;(with_reducible refine (diff_side.calls k A1 c1 x.f1 x.f0 _ _ HC1.out HL1.out HS1.out).mono ?_);rintro e wb ⟨rfl,hb_⟩;clear HS1;have n_HB:=As.mk (bS HB.out hb_);have n_HC1:=As.mk (Kd.C_below HC1.out hb_);have n_HC2:=As.mk (Kd.C_below HC2.out hb_);have n_HMX:=As.mk (HMX.out.below hb_);have n_b0:=pC hb_ b0;have n_b1:=pC hb_ b1;have n_b2:=pC hb_ b2;clear b0 b1 b2 hb_ HB HC1 HC2 HMX;have HB:=n_HB;have HC1:=n_HC1;have HC2:=n_HC2;have HMX:=n_HMX;have b0:=n_b0;have b1:=n_b1;have b2:=n_b2;clear n_b0 n_b1 n_b2 n_HB n_HC1 n_HC2 n_HMX) | (go_at_call 73;(with_reducible refine (diff_side.calls k A2 c2 x.f2 x.f0 _ _ HC2.out HL2.out HS2.out).mono ?_);rintro e wc ⟨rfl,hb_⟩;clear HS2;have n_HB:=As.mk (bS HB.out hb_);have n_HC1:=As.mk (Kd.C_below HC1.out hb_);have n_HC2:=As.mk (Kd.C_below HC2.out hb_);have n_HMX:=As.mk (HMX.out.below hb_);have n_b0:=pC hb_ b0;have n_b1:=pC hb_ b1;have n_b2:=pC hb_ b2;clear b0 b1 b2 hb_ HB HC1 HC2 HMX;have HB:=n_HB;have HC1:=n_HC1;have HC2:=n_HC2;have HMX:=n_HMX;have b0:=n_b0;have b1:=n_b1;have b2:=n_b2;clear n_b0 n_b1 n_b2 n_HB n_HC1 n_HC2 n_HMX) | (go_at_call 74;(with_reducible refine (dsame_calls sm k _ A1 c1 x.f1 A2 c2 x.f2 HC1.out HC2.out HLE.out HSM.out).mono ?_);rintro e wd ⟨he_,hb_⟩;rw [← HBA.out] at he_;subst he_;have n_HB:=As.mk (bS HB.out hb_);have n_HC1:=As.mk (Kd.C_below HC1.out hb_);have n_HC2:=As.mk (Kd.C_below HC2.out hb_);have n_HMX:=As.mk (HMX.out.below hb_);have n_b0:=pC hb_ b0;have n_b1:=pC hb_ b1;have n_b2:=pC hb_ b2;clear b0 b1 b2 hb_ HB HC1 HC2 HMX;have HB:=n_HB;have HC1:=n_HC1;have HC2:=n_HC2;have HMX:=n_HMX;have b0:=n_b0;have b1:=n_b1;have b2:=n_b2;clear n_b0 n_b1 n_b2 n_HB n_HC1 n_HC2 n_HMX))
       go_ret
       exact ⟨by rw [HNX.out];rfl,HB.out⟩
      | true =>
       cases ba with
       | true =>
        go_wp2_with (first | (go_at_call 72;(with_reducible refine (def_Split.calls k x.f0 r1 r2 _ _ HSP.out HMX.out).mono ?_);rintro e wa ⟨rfl,hb_⟩;have n_HB:=As.mk (bS HB.out hb_);have n_HC1:=As.mk (Kd.C_below HC1.out hb_);have n_HC2:=As.mk (Kd.C_below HC2.out hb_);have n_HMX:=As.mk (HMX.out.below hb_);have n_b0:=pC hb_ b0;have n_b1:=pC hb_ b1;have n_b2:=pC hb_ b2;clear b0 b1 b2 hb_ HB HC1 HC2 HMX;have HB:=n_HB;have HC1:=n_HC1;have HC2:=n_HC2;have HMX:=n_HMX;have b0:=n_b0;have b1:=n_b1;have b2:=n_b2;clear n_b0 n_b1 n_b2 n_HB n_HC1 n_HC2 n_HMX) | (go_at_call 73;(with_reducible refine (diff_side.calls k A1 c1 x.f1 x.f0 _ _ HC1.out HL1.out HS1.out).mono ?_);rintro e wb ⟨rfl,hb_⟩;clear HS1;have n_HB:=As.mk (bS HB.out hb_);have n_HC1:=As.mk (Kd.C_below HC1.out hb_);have n_HC2:=As.mk (Kd.C_below HC2.out hb_);have n_HMX:=As.mk (HMX.out.below hb_);have n_b0:=pC hb_ b0;have n_b1:=pC hb_ b1;have n_b2:=pC hb_ b2;clear b0 b1 b2 hb_ HB HC1 HC2 HMX;have HB:=n_HB;have HC1:=n_HC1;have HC2:=n_HC2;have HMX:=n_HMX;have b0:=n_b0;have b1:=n_b1;have b2:=n_b2;clear n_b0 n_b1 n_b2 n_HB n_HC1 n_HC2 n_HMX) | (go_at_call 73;(with_reducible refine (diff_side.calls k A2 c2 x.f2 x.f0 _ _ HC2.out HL2.out HS2.out).mono ?_);rintro e wc ⟨rfl,hb_⟩;clear HS2;have n_HB:=As.mk (bS HB.out hb_);have n_HC1:=As.mk (Kd.C_below HC1.out hb_);have n_HC2:=As.mk (Kd.C_below HC2.out hb_);have n_HMX:=As.mk (HMX.out.below hb_);have n_b0:=pC hb_ b0;have n_b1:=pC hb_ b1;have n_b2:=pC hb_ b2;clear b0 b1 b2 hb_ HB HC1 HC2 HMX;have HB:=n_HB;have HC1:=n_HC1;have HC2:=n_HC2;have HMX:=n_HMX;have b0:=n_b0;have b1:=n_b1;have b2:=n_b2;clear n_b0 n_b1 n_b2 n_HB n_HC1 n_HC2 n_HMX) | (go_at_call 74;(with_reducible refine (dsame_calls sm k _ A1 c1 x.f1 A2 c2 x.f2 HC1.out HC2.out HLE.out HSM.out).mono ?_);rintro e wd ⟨he_,hb_⟩;rw [← HBA.out] at he_;subst he_;have n_HB:=As.mk (bS HB.out hb_);have n_HC1:=As.mk (Kd.C_below HC1.out hb_);have n_HC2:=As.mk (Kd.C_below HC2.out hb_);have n_HMX:=As.mk (HMX.out.below hb_);have n_b0:=pC hb_ b0;have n_b1:=pC hb_ b1;have n_b2:=pC hb_ b2;clear b0 b1 b2 hb_ HB HC1 HC2 HMX;have HB:=n_HB;have HC1:=n_HC1;have HC2:=n_HC2;have HMX:=n_HMX;have b0:=n_b0;have b1:=n_b1;have b2:=n_b2;clear n_b0 n_b1 n_b2 n_HB n_HC1 n_HC2 n_HMX))
        go_ret
        exact ⟨by rw [HNX.out];rfl,HB.out⟩
       | false =>
        go_wp2_with (first | (go_at_call 72;(with_reducible refine (def_Split.calls k x.f0 r1 r2 _ _ HSP.out HMX.out).mono ?_);rintro e wa ⟨rfl,hb_⟩;have n_HB:=As.mk (bS HB.out hb_);have n_HC1:=As.mk (Kd.C_below HC1.out hb_);have n_HC2:=As.mk (Kd.C_below HC2.out hb_);have n_HMX:=As.mk (HMX.out.below hb_);have n_b0:=pC hb_ b0;have n_b1:=pC hb_ b1;have n_b2:=pC hb_ b2;clear b0 b1 b2 hb_ HB HC1 HC2 HMX;have HB:=n_HB;have HC1:=n_HC1;have HC2:=n_HC2;have HMX:=n_HMX;have b0:=n_b0;have b1:=n_b1;have b2:=n_b2;clear n_b0 n_b1 n_b2 n_HB n_HC1 n_HC2 n_HMX) | (go_at_call 73;(with_reducible refine (diff_side.calls k A1 c1 x.f1 x.f0 _ _ HC1.out HL1.out HS1.out).mono ?_);rintro e wb ⟨rfl,hb_⟩;clear HS1;have n_HB:=As.mk (bS HB.out hb_);have n_HC1:=As.mk (Kd.C_below HC1.out hb_);have n_HC2:=As.mk (Kd.C_below HC2.out hb_);have n_HMX:=As.mk (HMX.out.below hb_);have n_b0:=pC hb_ b0;have n_b1:=pC hb_ b1;have n_b2:=pC hb_ b2;clear b0 b1 b2 hb_ HB HC1 HC2 HMX;have HB:=n_HB;have HC1:=n_HC1;have HC2:=n_HC2;have HMX:=n_HMX;have b0:=n_b0;have b1:=n_b1;have b2:=n_b2;clear n_b0 n_b1 n_b2 n_HB n_HC1 n_HC2 n_HMX) | (go_at_call 73;(with_reducible refine (diff_side.calls k A2 c2 x.f2 x.f0 _ _ HC2.out HL2.out HS2.out).mono ?_);rintro e wc ⟨rfl,hb_⟩;clear HS2;have n_HB:=As.mk (bS HB.out hb_);have n_HC1:=As.mk (Kd.C_below HC1.out hb_);have n_HC2:=As.mk (Kd.C_below HC2.out hb_);have n_HMX:=As.mk (HMX.out.below hb_);have n_b0:=pC hb_ b0;have n_b1:=pC hb_ b1;have n_b2:=pC hb_ b2;clear b0 b1 b2 hb_ HB HC1 HC2 HMX;have HB:=n_HB;have HC1:=n_HC1;have HC2:=n_HC2;have HMX:=n_HMX;have b0:=n_b0;have b1:=n_b1;have b2:=n_b2;clear n_b0 n_b1 n_b2 n_HB n_HC1 n_HC2 n_HMX) | (go_at_call 74;(with_reducible refine (dsame_calls sm k _ A1 c1 x.f1 A2 c2 x.f2 HC1.out HC2.out HLE.out HSM.out).mono ?_);rintro e wd ⟨he_,hb_⟩;rw [← HBA.out] at he_;subst he_;have n_HB:=As.mk (bS HB.out hb_);have n_HC1:=As.mk (Kd.C_below HC1.out hb_);have n_HC2:=As.mk (Kd.C_below HC2.out hb_);have n_HMX:=As.mk (HMX.out.below hb_);have n_b0:=pC hb_ b0;have n_b1:=pC hb_ b1;have n_b2:=pC hb_ b2;clear b0 b1 b2 hb_ HB HC1 HC2 HMX;have HB:=n_HB;have HC1:=n_HC1;have HC2:=n_HC2;have HMX:=n_HMX;have b0:=n_b0;have b1:=n_b1;have b2:=n_b2;clear n_b0 n_b1 n_b2 n_HB n_HC1 n_HC2 n_HMX))
        go_roundg (gk - 1)
        case measure=>have:=HKQ.out;have:=HX.out;omega
        case rel=>exact ⟨n + 1,x.f0,rfl,(by first | rfl | rw [hw1]),HX.out.1,⟨by have:=HKQ.out;have:=HX.out;omega⟩,⟨HNX.out⟩,HB⟩
end Go.Proofs.YtmlebgikdegjjaaGreatDoor.Hd
