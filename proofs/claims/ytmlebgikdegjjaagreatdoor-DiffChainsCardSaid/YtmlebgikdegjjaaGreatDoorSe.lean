/- Snapshots held against each other: Snap.Same. -/
import Derived.Test.YtmlebgikdegjjaaGreatDoorSb
import Derived.Test.YtmlebgikdegjjaaGreatDoorPAllx8
import Derived.Deep.LoopGhost
set_option maxHeartbeats 16000000
set_option maxRecDepth 100000
namespace Go.Proofs.YtmlebgikdegjjaaGreatDoor.Hd
open Go.Maps Go.RowKit Go.Proofs.YtmlebgikdegjjaaGreatDoorW.PrintWords Go.Proofs.YtmlebgikdegjjaaGreatDoorW.PrintLast Go.Proofs.YtmlebgikdegjjaaGreatDoorW.PrintMore Go.Proofs.YtmlebgikdegjjaaGreatDoor.PAll
attribute [local go_sem] max2_int min2_int max_two min_two max_three min_three max_four min_four
set_option linter.unusedVariables false
set_option linter.unusedSimpArgs false
def eqS (sm : S34 → S34 → Bool) : DataW S34 → DataW S34 → Bool
 | .held x,.held y=>sm x y
 | _,_=>false
def equalM (sm : S34 → S34 → Bool) (M1 M2 : DataW S34) : Bool:=Lib.equalFuncD (eqS sm) M1 M2
def ElemOf (M : DataW S34) (d : S34) : Prop:=∃ kl,∀ z,M.atKey kl z = .held d
theorem key_string {v : Value} {kl : Lit} (h : keyOf Tryz.prog 9 v = some kl) : ∃ s : ByteArray,v = .string s:=by
 rw [Go.keyOf_string Tryz.underlying9] at h
 unfold mapKey at h
 rw [Tryz.underlying9] at h
 cases v <;> first | exact ⟨_,rfl⟩ | cases h
theorem key_of_string {s : ByteArray} {kl : Lit} (h : keyOf Tryz.prog 9 (.string s) = some kl) : kl = KL s ∧ s.size ≤ maxLen:=by
 rw [Go.keyOf_string Tryz.underlying9] at h
 unfold mapKey at h
 rw [Tryz.underlying9] at h
 by_cases hs : s.size ≤ maxLen
 ·simp only [hs,if_true] at h
  exact ⟨(Option.some.inj h).symm,hs⟩
 ·simp only [hs,if_false] at h
  cases h
theorem below_none {w w' : World} (h : w.grownBy w' none) : Below w.heap.size w w':=⟨h.os,h.tape,h.output,h.size,fun k hk=>h.block k hk (by simp)⟩
theorem equal_calls (sm : S34 → S34 → Bool) (k : Nat) (w : World) (b1 b2 : Nat) (M1 M2 : DataW S34) (h1 : MapD w b1 M1) (h2 : MapD w b2 M2) (hs1 : Maps.size M1 ≤ 1000000) (hs2 : Maps.size M2 ≤ 1000000)
  (hsm : ∀ x y,ElemOf M1 x → ElemOf M2 y → def_Same.f k x.f0 x.f1 x.f2 x.f3 x.f4 x.f5 y.f0 y.f1 y.f2 y.f3 y.f4 y.f5 = some (sm x y)) :
  Calls Tryz.prog 75 #[.map (some b1),.map (some b2),.func (.func 76) #[] #[]] w fun e w'=>e = .returned (.bool (equalM sm M1 M2)) ∧ Below w.heap.size w w':=by
 have hu34:=Tryz.underlying34
 obtain ⟨ms1,hM1,hris,hkeys⟩:=h1.canon
 have HM1:=As.mk hM1
 have hap:=apart_of_rising hris
 have HH1:=As.mk h1
 have HM2:=As.mk h2
 have HSA:=As.mk hsm
 obtain ⟨D1,ho1,hr1⟩:=h1
 have HR1:=As.mk hr1
 clear hsm h2 hris hr1 hM1
 generalize hres : equalM sm M1 M2 = res
 have RES:=As.mk hres
 clear hres
 have HB:=As.mk (Below.refl w.heap.size w)
 by_cases hsz : Maps.size M1 = Maps.size M2
 ·have c1_ : (((Maps.size M1 : Nat) : Int) != ((Maps.size M2 : Nat) : Int)) = false:=bne_eq_false_iff_eq.mpr (by rw [hsz])
  have HSZ:=As.mk hsz
  clear hsz
  go_enter Tryz.func75,Tryz.ntmps75
  go_wp2_with (first
   | (at_len;refine len_event rfl _ rfl b1 M1 rfl HH1.out ?_)
   | (at_len;refine len_event rfl _ rfl b2 M2 rfl HM2.out ?_)
   | (at_range;refine wpList_range_own _ rfl _ 86 rfl 9 34 keyed_ Tryz.underlying86 RV b1 _ _ rfl ho1 ?_;intro w0 hrg0 hg0 hs0)
   | go_in)
  go_frame
  go_loopw [18] (fun _ wr=>∃ (left : Lit → Bool) (cnt : Nat),wr.ranges Tryz.prog 9 RV b1 w.heap.size (Maps.size M1) D1 left cnt ∧ w.grownBy wr none ∧ As (GoodAt (eqS sm) ms1 M2 left))
   (fun _ wr=>wr.rangeLeft b1 w.heap.size)
  case atStart =>
   refine ⟨_,_,hrg0,hg0,⟨?_⟩⟩
   have hst:=good_start (eqd:=eqS sm) hkeys M2
   have hhas : ∀ kl,Maps.has D1 kl = Maps.has (.map ms1) kl:=fun kl=>by
    rw [← HM1.out]
    rcases HR1.out.look kl with ⟨a1,a2⟩ | ⟨a1,a2,_⟩ <;> rw [a1,a2]
   intro p hp hl
   exact hst p hp (by rw [← hhas];exact hl)
  case round =>
   obtain ⟨left,cnt,hrg,hgw,G⟩:=hrel
   go_wp2_with (first | (at_next;refine wpList_next_ranges _ rfl _ rfl 9 keyed_ RV Value.string id (fun key _ h=>key_string h) (fun v _ _=>⟨v,rfl⟩) b1 w.heap.size _ _ _ _ rfl hrg ?_ ?_) | go_in)
   ·intro _ hl0
    go_wp2
    go_ret
    exact ⟨by rw [← RES.out,HM1.out];unfold equalM;rw [all_good G.out hl0 (by rw [← HM1.out];exact HSZ.out)];rfl,below_none hgw⟩
   ·intro s_ c kl yd yp w1 cnt1 hkey hlx hv hv2 hat hrg1 hlt hg1 hs1 hen
    obtain ⟨rfl,hss⟩:=key_of_string hkey
    have HSS:=As.mk hss
    have hgw1 : w.grownBy w1 none:=hgw.andThen hg1 (fun j hj=>by cases hj;exact Or.inl (Nat.le_refl _))
    have HB:=As.mk (below_none hgw1)
    have hDv : ∃ d1,Dv w1 d1 c ∧ ∀ z,(DataW.map ms1).atKey (KL s_) z = .held d1:=by
     rcases HR1.out.look (KL s_) with ⟨a1,_⟩ | ⟨_,_,v,d,a3,a4,a5⟩
     ·have a2:=has_true_of_atKey hat
      rw [a1] at a2
      cases a2
     ·have a6:=(a3 .nil).symm.trans (hat .nil)
      rw [← hv] at a6
      injection a6 with a6
      subst a6
      exact ⟨d,a5.cells (.below HB.out),by rw [← HM1.out];exact a4⟩
    obtain ⟨d1,⟨A1,c1,rfl,hl1,hg1_⟩,hat1⟩:=hDv
    have HL1:=As.mk hl1
    have HAT1:=As.mk hat1
    have HBR:=HB
    clear HB
    have HG1:=As.mk hg1_
    have HM2r:=As.mk (HM2.out.below HBR.out)
    have HB:=As.mk (Below.refl w1.heap.size w1)
    clear hl1 hat1 hg1_ hv hv2
    rcases Bool.eq_false_or_eq_true (Maps.has M2 (KL s_)) with hh | hh
    ·have HH:=As.mk hh
     have hd2 : ∃ d2,∀ z,M2.atKey (KL s_) z = .held d2:=by
      obtain ⟨D2,_,hr2⟩:=HM2.out
      rcases hr2.look (KL s_) with ⟨_,a2⟩ | ⟨_,_,_,d,_,a4,_⟩
      ·rw [hh] at a2
       cases a2
      ·exact ⟨d,a4⟩
     obtain ⟨d2,hat2⟩:=hd2
     have HAT2:=As.mk hat2
     have HSM:=As.mk (HSA.out d1 d2 ⟨_,by rw [HM1.out];exact HAT1.out⟩ ⟨_,hat2⟩)
     clear hh hat2
     have HGD:=As.mk (show Lib.goodD (eqS sm) M2 (KL s_,.held d1) = sm d1 d2 by
      unfold Lib.goodD
      show (Maps.has M2 (KL s_) && eqS sm (.held d1) (M2.atKey (KL s_) .nil)) = _
      rw [HH.out,HAT2.out,Bool.true_and]
      rfl)
     cases hsmv : sm d1 d2 with
     | false =>
      rw [hsmv] at HGD HSM
      go_wp2_with (first | (at_lookup;refine look_event rfl _ _ rfl b2 M2 s_ rfl rfl HSS.out (HM2r.out.below (by repeat (first | (with_reducible first | exact HB.out | apply bA | apply bN | apply bD) | exact HB.out))) (fun h1=>by rw [HH.out] at h1;cases h1) (fun v2_ d2_ _ h2_ h3_=>?_);obtain rfl : d2 = d2_:=(by have:=(HAT2.out .nil).symm.trans (h2_ .nil);injection this);obtain ⟨A2,c2,rfl,l2_,g2_⟩:=h3_;have HL2:=As.mk l2_;have HG2:=As.mk g2_;clear h2_ l2_ g2_) | (go_at_call 76;(with_reducible refine (def_Same.calls k d1.f0 d1.f1 d1.f2 A1 c1 d1.f3 d1.f4 d1.f5 d2.f0 d2.f1 d2.f2 A2 c2 d2.f3 d2.f4 d2.f5 _ _ ?s1 HL1.out ?s2 HL2.out HSM.out).mono ?_);(case s1=>exact C_cells HG1.out (.below (by repeat (first | (with_reducible first | exact HB.out | apply bA | apply bN | apply bD) | exact HB.out))));(case s2=>exact C_cells HG2.out (.below (by repeat (first | (with_reducible exact Below.refl _ _) | apply bA | apply bN | apply bD))));rintro e w5 ⟨rfl,hb_⟩;have n0_:=As.mk (bS (by repeat (first | (with_reducible first | exact HB.out | apply bA | apply bN | apply bD) | exact HB.out)) hb_);clear HB hb_;have HB:=n0_;clear n0_))
      go_ret
      exact ⟨by rw [← RES.out,HM1.out];unfold equalM;rw [bad_false hap hkeys HAT1.out HGD.out];rfl,bS HBR.out (by repeat (first | (with_reducible first | exact HB.out | apply bA | apply bN | apply bD) | exact HB.out))⟩
     | true =>
      rw [hsmv] at HGD HSM
      go_wp2_with (first | (at_lookup;refine look_event rfl _ _ rfl b2 M2 s_ rfl rfl HSS.out (HM2r.out.below (by repeat (first | (with_reducible first | exact HB.out | apply bA | apply bN | apply bD) | exact HB.out))) (fun h1=>by rw [HH.out] at h1;cases h1) (fun v2_ d2_ _ h2_ h3_=>?_);obtain rfl : d2 = d2_:=(by have:=(HAT2.out .nil).symm.trans (h2_ .nil);injection this);obtain ⟨A2,c2,rfl,l2_,g2_⟩:=h3_;have HL2:=As.mk l2_;have HG2:=As.mk g2_;clear h2_ l2_ g2_) | (go_at_call 76;(with_reducible refine (def_Same.calls k d1.f0 d1.f1 d1.f2 A1 c1 d1.f3 d1.f4 d1.f5 d2.f0 d2.f1 d2.f2 A2 c2 d2.f3 d2.f4 d2.f5 _ _ ?s1 HL1.out ?s2 HL2.out HSM.out).mono ?_);(case s1=>exact C_cells HG1.out (.below (by repeat (first | (with_reducible first | exact HB.out | apply bA | apply bN | apply bD) | exact HB.out))));(case s2=>exact C_cells HG2.out (.below (by repeat (first | (with_reducible exact Below.refl _ _) | apply bA | apply bN | apply bD))));rintro e w5 ⟨rfl,hb_⟩;have n0_:=As.mk (bS (by repeat (first | (with_reducible first | exact HB.out | apply bA | apply bN | apply bD) | exact HB.out)) hb_);clear HB hb_;have HB:=n0_;clear n0_))
      have hg9_:=grown_of_below (show Below w1.heap.size w1 _ from (by repeat (first | (with_reducible first | exact HB.out | apply bA | apply bN | apply bD) | exact HB.out))) none
      have hrg2:=hrg1.kept hg9_ (by simp) (by simp)
      go_roundw
      case rel=>exact ⟨_,cnt1,hrg2,hgw1.andThen hg9_ (fun j hj=>by cases hj),⟨good_step hap hkeys HAT1.out G.out HGD.out⟩⟩
      case measure=>rw [hrg2.left_eq,hrg.left_eq];exact hlt
    ·have HH:=As.mk hh
     clear hh
     have hbad : Lib.goodD (eqS sm) M2 (KL s_,.held d1) = false:=by unfold Lib.goodD;rw [HH.out];rfl
     go_wp2_with (first | (at_lookup;refine look_no rfl _ _ rfl b2 M2 s_ rfl rfl HSS.out (HM2r.out.below (by repeat (first | (with_reducible first | exact HB.out | apply bA | apply bN | apply bD) | exact HB.out))) HH.out ?_))
     go_ret
     exact ⟨by rw [← RES.out,HM1.out];unfold equalM;rw [bad_false hap hkeys HAT1.out hbad];rfl,bS HBR.out (by repeat (first | (with_reducible first | exact HB.out | apply bA | apply bN | apply bD) | exact HB.out))⟩
 ·have c1_ : (((Maps.size M1 : Nat) : Int) != ((Maps.size M2 : Nat) : Int)) = true:=bne_iff_ne.mpr (fun e=>hsz (by omega))
  have HSZ:=As.mk hsz
  clear hsz
  go_enter Tryz.func75,Tryz.ntmps75
  go_wp2_with (first
   | (at_len;refine len_event rfl _ rfl b1 M1 rfl HH1.out ?_)
   | (at_len;refine len_event rfl _ rfl b2 M2 rfl HM2.out ?_)
   | go_in)
  go_ret
  exact ⟨by rw [← RES.out];unfold equalM;rw [sizes_false HSZ.out];rfl,(by repeat (first | (with_reducible first | exact HB.out | apply bA | apply bN | apply bD) | exact HB.out))⟩
theorem same_calls (sm : S34 → S34 → Bool) (k : Nat) (w : World) (v1 v2 : Value) (M1 M2 : DataW S34) (h1 : SnR w v1 M1) (h2 : SnR w v2 M2) (hs1 : Maps.size M1 ≤ 1000000) (hs2 : Maps.size M2 ≤ 1000000)
  (hsm : ∀ x y,ElemOf M1 x → ElemOf M2 y → def_Same.f k x.f0 x.f1 x.f2 x.f3 x.f4 x.f5 y.f0 y.f1 y.f2 y.f3 y.f4 y.f5 = some (sm x y)) :
  Calls Tryz.prog 34 #[v1,v2] w fun e w'=>e = .returned (.bool (equalM sm M1 M2)) ∧ Below w.heap.size w w':=by
 obtain ⟨g1,b1,rfl,hc1,hm1⟩:=h1
 obtain ⟨g2,b2,rfl,hc2,hm2⟩:=h2
 have HSA:=As.mk hsm
 clear hsm
 go_enter Tryz.func34,Tryz.ntmps34
 go_wp2_with (first | (go_at_call 65;(with_reducible refine (all_some _ g1 b1 hc1).mono ?_);rintro e wz ⟨rfl,rfl⟩) | (go_at_call 65;(with_reducible refine (all_some _ g2 b2 hc2).mono ?_);rintro e wz ⟨rfl,rfl⟩) | (go_at_call 75;(with_reducible refine (equal_calls sm k _ b1 b2 M1 M2 hm1 hm2 hs1 hs2 HSA.out).mono ?_);rintro e w5 ⟨rfl,hb_⟩;have HB:=As.mk hb_;clear hb_))
 go_ret
 exact ⟨rfl,HB.out⟩
end Go.Proofs.YtmlebgikdegjjaaGreatDoor.Hd
