/- SnapParses, walked. -/
import Derived.Test.YtmlebgikdegjjaaGreatDoorVd
import Derived.Test.YtmlebgikdegjjaaGreatDoorVe
set_option maxHeartbeats 16000000
set_option maxRecDepth 100000
namespace Go.Proofs.YtmlebgikdegjjaaGreatDoor.Hd
open Go.Maps Go.RowKit Go.Proofs.YtmlebgikdegjjaaGreatDoorW.PrintWords Go.Proofs.YtmlebgikdegjjaaGreatDoorW.PrintLast Go.Proofs.YtmlebgikdegjjaaGreatDoorW.PrintMore Go.Proofs.YtmlebgikdegjjaaGreatDoor.PAll
attribute [local go_sem] max2_int min2_int max_two min_two max_three min_three max_four min_four
set_option linter.unusedVariables false
set_option linter.unusedSimpArgs false
theorem Sn_ofR {w : World} {v : Value} {M : DataW S34} (h : SnR w v M) : Sn w v M:=Or.inr h
theorem parse_all (key : S34 → ByteArray) (A0 : Option Addr) (c0 : Nat) (bs : List Int) (w : World) (hr : Kd.C (Kd.int .u8) w A0 bs.length bs) (hc : bs.length ≤ c0) (hlen : bs.length ≤ 2000) (hok : BytesOk bs) (hinv : ∀ (b : List Int) (d : DV) (b' : List Int) (e' : Int),BytesOk b → readR b 0 = (d,0,b',e') → b = defS (toS d) ++ b' ∧ e' = 0) (hkey : ∀ (b : List Int) (d : DV) (b' : List Int) (e' : Int),BytesOk b → b.length ≤ 2000 → readR b 0 = (d,0,b',e') → (∃ k,def_Key.f k d.kd d.c d.s d.v d.l d.t = some (key (toS d))) ∧ (key (toS d)).size ≤ 1000000) :
  Calls Tryz.prog 58 #[.slice A0 bs.length c0] w fun e w'=>∃ p,e = .returned (.tuple #[.pointer p,.int .i64 (parseR key bs).2]) ∧ ((parseR key bs).2 = 0 → SnR w' (.pointer p) (mapK key (parseR key bs).1)) ∧ ((parseR key bs).2 ≠ 0 → p = none) ∧ Below w.heap.size w w':=by
 obtain ⟨n,b1,e1,hq⟩ : ∃ n b e,numR bs 0 = (n,b,e):=⟨_,_,_,rfl⟩
 obtain ⟨q1,_,q3,_,q5,_⟩:=numR_facts hok hq
 by_cases he : e1 = 0
 ·subst he
  by_cases hn : n > 500
  ·exact parse_full key A0 c0 bs w hr hc hlen hok n b1 hq hn
  ·exact parse_calls key A0 c0 bs w hr hc hlen hok n b1 hq hn q3 q1 (by omega) hinv hkey
 ·exact parse_num key A0 c0 bs w hr hc hlen hok n e1 b1 hq he
theorem rparse_all (key : S34 → ByteArray) (bs : List Int) (w : World) (hok : BytesOk bs) (hlen : bs.length ≤ 2000) (hinv : ∀ (b : List Int) (d : DV) (b' : List Int) (e' : Int),BytesOk b → readR b 0 = (d,0,b',e') → b = defS (toS d) ++ b' ∧ e' = 0) (hrkey : ∀ (b : List Int) (d : DV) (b' : List Int) (e' : Int),BytesOk b → b.length ≤ 2000 → readR b 0 = (d,0,b',e') → (∃ k,r07_Key.f k d.kd d.c d.s d.v d.l d.t = some (key (toS d))) ∧ 0 < (key (toS d)).size) :
  Calls Tryz.prog 59 #[.string (strOfNums bs)] w fun e w'=>∃ A c,e = .returned (.tuple #[.slice A (parseR key bs).1.length c,.int .i64 (parseR key bs).2]) ∧ Kd.V k34 34 w' 0 (fun _=>True) (.slice A (parseR key bs).1.length c) (parseR key bs).1 ∧ Below w.heap.size w w':=by
 obtain ⟨n,b1,e1,hq⟩ : ∃ n b e,numR bs 0 = (n,b,e):=⟨_,_,_,rfl⟩
 obtain ⟨q1,_,q3,_,q5,_⟩:=numR_facts hok hq
 by_cases he : e1 = 0
 ·subst he
  by_cases hn : n > 500
  ·exact rparse_full key bs w hok n b1 hq hn
  ·exact rparse_calls key bs w hok n b1 hq hn q3 q1 (by omega) hinv hrkey
 ·exact rparse_num key bs w hok n e1 b1 hq he
theorem parses_long (A0 : Option Addr) (c0 : Nat) (bs : List Int) (w : World) (hr : Kd.C (Kd.int .u8) w A0 bs.length bs) (hn : ¬ bs.length ≤ 1500) :
  Calls Tryz.prog 13 #[.slice A0 bs.length c0] w fun e w'=>e = .returned (.bool true) ∧ Below w.heap.size w w':=by
 have HB:=As.mk (Below.refl w.heap.size w)
 have ca_ : decide ((1500 : Int) < (bs.length : Int)) = true:=decide_eq_true (by omega)
 have cb_ : ((1500 : Int) < (bs.length : Int)) = True:=eq_true (by omega)
 clear hr hn
 go_enter Tryz.func13,Tryz.ntmps13
 go_wp2_with (first | (go_at_call 15;(with_reducible refine (awake_calls _).mono ?_);rintro e wb ⟨rfl,hb_⟩;have n0_:=As.mk (bS (by repeat (first | (with_reducible first | exact HB.out | apply bA | apply bN | apply bD) | exact HB.out)) hb_);clear HB hb_;have HB:=n0_;clear n0_))
 go_ret
 exact ⟨rfl,(by repeat (first | (with_reducible first | exact HB.out | apply bA | apply bN | apply bD) | exact HB.out))⟩
theorem parses_go (key : S34 → ByteArray) (sm : S34 → S34 → Bool) (k : Nat) (A0 : Option Addr) (c0 : Nat) (bs : List Int) (w : World) (hr : Kd.C (Kd.int .u8) w A0 bs.length bs) (hc : bs.length ≤ c0) (hlen : bs.length ≤ 1500) (hok : BytesOk bs) (hinv : ∀ (b : List Int) (d : DV) (b' : List Int) (e' : Int),BytesOk b → readR b 0 = (d,0,b',e') → b = defS (toS d) ++ b' ∧ e' = 0) (hkey : ∀ (b : List Int) (d : DV) (b' : List Int) (e' : Int),BytesOk b → b.length ≤ 2000 → readR b 0 = (d,0,b',e') → (∃ k,def_Key.f k d.kd d.c d.s d.v d.l d.t = some (key (toS d))) ∧ (key (toS d)).size ≤ 1000000) (hrkey : ∀ (b : List Int) (d : DV) (b' : List Int) (e' : Int),BytesOk b → b.length ≤ 2000 → readR b 0 = (d,0,b',e') → (∃ k,r07_Key.f k d.kd d.c d.s d.v d.l d.t = some (key (toS d))) ∧ 0 < (key (toS d)).size)
  (out : List S34) (en : Int) (hpr : parseR key bs = (out,en)) (hgood : en = 0 → snapO out = bs ∧ out.length ≤ 500 ∧ (∀ d ∈ out,d.f3.length ≤ 1000000) ∧ (∀ d ∈ out,Wok k d) ∧ (∀ x ∈ out,∀ y ∈ out,r07_Same.f k x.f0 x.f1 x.f2 x.f3 x.f4 x.f5 y.f0 y.f1 y.f2 y.f3 y.f4 y.f5 = some (sm x y)) ∧ (∀ x ∈ out,sm x x = true)) :
  Calls Tryz.prog 13 #[.slice A0 bs.length c0] w fun e w'=>e = .returned (.bool true) ∧ Below w.heap.size w w':=by
 have HB:=As.mk (Below.refl w.heap.size w)
 have HR:=As.mk hr
 have HC:=As.mk hc
 have HLEN:=As.mk (show bs.length ≤ 2000 by omega)
 have HOK:=As.mk hok
 have HINV:=As.mk hinv
 have HKEY:=As.mk hkey
 have HRKEY:=As.mk hrkey
 have HPR:=As.mk hpr
 have HGD:=As.mk hgood
 have ca_ : decide ((1500 : Int) < (bs.length : Int)) = false:=decide_eq_false (by omega)
 have cb_ : ((1500 : Int) < (bs.length : Int)) = False:=eq_false (by omega)
 have zs_ : ((strOfNums bs).toList == (strOfNums bs).toList) = true:=beq_self_eq_true _
 have zs2_ : ((strOfNums bs).toList != (strOfNums bs).toList) = false:=bne_self_eq_false _
 have z0 : (en != en) = false:=bne_self_eq_false _
 clear hr hc hlen hok hinv hkey hrkey hpr hgood
 by_cases he : en = 0
 case neg=>as_aux_lemma =>
  have z1 : (en != 0) = true:=bne_iff_ne.mpr he
  have HE:=As.mk he
  clear he
  go_enter Tryz.func13,Tryz.ntmps13
  go_upto_region 9 with (first | (go_at_call 15;(with_reducible refine (awake_calls _).mono ?_);rintro e wa ⟨rfl,hb_⟩;have n0_:=As.mk (bS (by repeat (first | (with_reducible first | exact HB.out | apply bA | apply bN | apply bD) | exact HB.out)) hb_);clear HB hb_;have HB:=n0_;clear n0_;have hcv:=Kd.C_string (P:=Tryz.prog) (c:=c0) Tryz.underlying54 Tryz.underlying5 Tryz.underlying9 (Kd.C_below HR.out HB.out)) | (go_at_call 58;(with_reducible refine (parse_all key A0 c0 bs _ (Kd.C_below HR.out (by repeat (first | (with_reducible first | exact HB.out | apply bA | apply bN | apply bD) | exact HB.out))) HC.out HLEN.out HOK.out HINV.out HKEY.out).mono ?_);rintro e w3 ⟨p0,rfl,hg_,hbad_,hb_⟩;rw [HPR.out] at hg_ hbad_;rw [HPR.out];dsimp only at hg_ hbad_ ⊢;have HSG:=As.mk hg_;have HSB:=As.mk hbad_;have n0_:=As.mk (bS (by repeat (first | (with_reducible first | exact HB.out | apply bA | apply bN | apply bD) | exact HB.out)) hb_);clear HB hb_ hcv hg_ hbad_;have HB:=n0_;clear n0_) | (go_at_call 59;(with_reducible refine (rparse_all key bs _ HOK.out HLEN.out HINV.out HRKEY.out).mono ?_);rintro e w4 ⟨Aw,cw,rfl,hV_,hb_⟩;rw [HPR.out] at hV_;rw [HPR.out];dsimp only at hV_ ⊢;have HV:=As.mk hV_;have n1_:=As.mk (fun h_ : en = 0=>(HSG.out h_).below hb_);have n0_:=As.mk (bS (by repeat (first | (with_reducible first | exact HB.out | apply bA | apply bN | apply bD) | exact HB.out)) hb_);clear HB HSG hb_ hV_;have HB:=n0_;have HSG:=n1_;clear n0_ n1_;have hcv:=Kd.C_string (P:=Tryz.prog) (c:=c0) Tryz.underlying54 Tryz.underlying5 Tryz.underlying9 (Kd.C_below HR.out HB.out)))
  obtain rfl:=HSB.out HE.out
  go_wp2_with (fail)
  go_ret
  exact ⟨rfl,(by repeat (first | (with_reducible first | exact HB.out | apply bA | apply bN | apply bD) | exact HB.out))⟩
 case pos =>
  have z1 : (en != 0) = false:=by rw [he];rfl
  obtain ⟨g1,g2,g3,g4,g5,g6⟩:=HGD.out he
  have HE:=As.mk he
  have HO:=As.mk g1
  have HOL5:=As.mk g2
  have HOL:=As.mk (show out.length ≤ 1000 by omega)
  have HOV:=As.mk g3
  have HWD:=As.mk g4
  have HRS:=As.mk g5
  have HOE:=As.mk g6
  clear he g1 g2 g3 g4 g5 g6 HGD
  go_enter Tryz.func13,Tryz.ntmps13
  go_upto_region 10 with (first | (go_at_call 15;(with_reducible refine (awake_calls _).mono ?_);rintro e wa ⟨rfl,hb_⟩;have n0_:=As.mk (bS (by repeat (first | (with_reducible first | exact HB.out | apply bA | apply bN | apply bD) | exact HB.out)) hb_);clear HB hb_;have HB:=n0_;clear n0_;have hcv:=Kd.C_string (P:=Tryz.prog) (c:=c0) Tryz.underlying54 Tryz.underlying5 Tryz.underlying9 (Kd.C_below HR.out HB.out)) | (go_at_call 58;(with_reducible refine (parse_all key A0 c0 bs _ (Kd.C_below HR.out (by repeat (first | (with_reducible first | exact HB.out | apply bA | apply bN | apply bD) | exact HB.out))) HC.out HLEN.out HOK.out HINV.out HKEY.out).mono ?_);rintro e w3 ⟨p0,rfl,hg_,hbad_,hb_⟩;rw [HPR.out] at hg_ hbad_;rw [HPR.out];dsimp only at hg_ hbad_ ⊢;have HSG:=As.mk hg_;have HSB:=As.mk hbad_;have n0_:=As.mk (bS (by repeat (first | (with_reducible first | exact HB.out | apply bA | apply bN | apply bD) | exact HB.out)) hb_);clear HB hb_ hcv hg_ hbad_;have HB:=n0_;clear n0_) | (go_at_call 59;(with_reducible refine (rparse_all key bs _ HOK.out HLEN.out HINV.out HRKEY.out).mono ?_);rintro e w4 ⟨Aw,cw,rfl,hV_,hb_⟩;rw [HPR.out] at hV_;rw [HPR.out];dsimp only at hV_ ⊢;have HV:=As.mk hV_;have n1_:=As.mk (fun h_ : en = 0=>(HSG.out h_).below hb_);have n0_:=As.mk (bS (by repeat (first | (with_reducible first | exact HB.out | apply bA | apply bN | apply bD) | exact HB.out)) hb_);clear HB HSG hb_ hV_;have HB:=n0_;have HSG:=n1_;clear n0_ n1_;have hcv:=Kd.C_string (P:=Tryz.prog) (c:=c0) Tryz.underlying54 Tryz.underlying5 Tryz.underlying9 (Kd.C_below HR.out HB.out)))
  obtain ⟨gs,b_,he_,hcs_,hms_⟩:=HSG.out HE.out
  injection he_ with he_
  subst he_
  have HSN:=As.mk (show SnR w4 (.pointer (some ⟨gs,0,none⟩)) (mapK key out) from ⟨gs,b_,rfl,hcs_,hms_⟩)
  clear hcs_ hms_ HSG HSB hcv
  have HBW:=HB
  clear HB
  have HB:=As.mk (Below.refl w4.heap.size w4)
  go_wp2_with (first | (go_at_call 21;(with_reducible refine (is_same key sm k _ (some ⟨gs,0,none⟩) out Aw cw ?s1 ?s2 HOL.out HOV.out HRS.out HOE.out).mono ?_);(case s1=>exact Sn_ofR (HSN.out.below (by repeat (first | (with_reducible first | exact HB.out | apply bA | apply bN | apply bD) | exact HB.out))));(case s2=>exact Kd.V_below HV.out (by repeat (first | (with_reducible first | exact HB.out | apply bA | apply bN | apply bD) | exact HB.out)));rintro e wi ⟨rfl,hb_⟩;have n0_:=As.mk (bS (by repeat (first | (with_reducible first | exact HB.out | apply bA | apply bN | apply bD) | exact HB.out)) hb_);clear HB hb_;have HB:=n0_;clear n0_) | (go_at_call 36;(with_reducible refine (write_same key k _ (some ⟨gs,0,none⟩) out ?s1 HOL5.out HWD.out).mono ?_);(case s1=>exact HSN.out.below (by repeat (first | (with_reducible first | exact HB.out | apply bA | apply bN | apply bD) | exact HB.out)));rintro e ww ⟨A7,c7,rfl,hl7_,hC7_,hb_⟩;rw [HO.out] at hC7_ hl7_;rw [HO.out];have hcv:=Kd.C_string (P:=Tryz.prog) (c:=c7) Tryz.underlying54 Tryz.underlying5 Tryz.underlying9 hC7_;have n0_:=As.mk (bS (by repeat (first | (with_reducible first | exact HB.out | apply bA | apply bN | apply bD) | exact HB.out)) hb_);clear HB hb_ hC7_ hl7_;have HB:=n0_;clear n0_))
  go_ret
  exact ⟨rfl,bS HBW.out (by repeat (first | (with_reducible first | exact HB.out | apply bA | apply bN | apply bD) | exact HB.out))⟩
end Go.Proofs.YtmlebgikdegjjaaGreatDoor.Hd
