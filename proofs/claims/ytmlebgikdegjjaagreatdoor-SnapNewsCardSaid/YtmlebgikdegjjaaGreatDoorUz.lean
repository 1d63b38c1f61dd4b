/- SnapNews, walked: New went well. -/
import Derived.Test.YtmlebgikdegjjaaGreatDoorUy
set_option maxHeartbeats 16000000
set_option maxRecDepth 100000
namespace Go.Proofs.YtmlebgikdegjjaaGreatDoor.Hd
open Go.Maps Go.RowKit Go.Proofs.YtmlebgikdegjjaaGreatDoorW.PrintWords Go.Proofs.YtmlebgikdegjjaaGreatDoorW.PrintLast Go.Proofs.YtmlebgikdegjjaaGreatDoorW.PrintMore Go.Proofs.YtmlebgikdegjjaaGreatDoor.PAll
attribute [local go_sem] max2_int min2_int max_two min_two max_three min_three max_four min_four
set_option linter.unusedVariables false
set_option linter.unusedSimpArgs false
def snapnews.T19 : Bool × List (List Nat × List Nat):=(true,[([],[]),([],[]),([0,1],[0,1]),([2,2],[2]),([3],[3]),([4,3],[3,4]),([3,5],[3,5]),([6,3],[6]),([7],[7]),([7],[7]),([8,9,7,7],[7,8,9]),([7,10],[7,10]),([11,10],[11]),([12],[12]),([12],[12]),([13,14,12,12],[12,13,14]),([12,15],[12,15]),([16,15],[16]),([17],[17]),([17],[17]),([19,17],[17,19]),([18,20,17],[17,18,20]),([17,21],[17,21]),([22,17],[22]),([23],[23]),([24,23],[23,24]),([25,23,23],[23,25]),([26],[26]),([26],[26]),([26],[26]),([28,29,26],[26,28,29]),([30,26],[26,30]),([27,31,26,26],[26,27,31]),([26,32,23],[23,26,32]),([23,33],[23,33]),([34,32],[34]),([35],[35]),([36,35,35],[35,36]),([37,35],[35,37]),([35],[35]),([39,37,35],[35,39]),([38,40,35],[35,38,40]),([35,41],[35,41]),([42,40,0,1,2,3,4,5,6,7,8,9,10,11,12,13,14,15,16,17,18,19,20,21,22,23,24,25,26,27,28,29,30,31,32,33,34,35,36,37,38,39,40,41,42],[42])])
def snapnews.B19 : List Nat:=[0,0,3,7,15,31,63,127,255,255,1023,2047,4095,8191,8191,32767,65535,131071,262143,262143,786431,2097151,4194303,8388607,16777215,33554431,67108863,134217727,134217727,134217727,939524095,2013265919,4294967295,8589934591,17179869183,34359738367,68719476735,137438953471,274877906943,68719476735,824633720831,2199023255551,4398046511103,8796093022207]
theorem snapnews.tab19 : rtab .any (opsOf Tryz.f5 19) = snapnews.T19:=by kernel_rfl
theorem snapnews.bits19 : waitsOk snapnews.T19.2 snapnews.B19 = true:=by kernel_rfl
theorem Sn_of {w : World} {v : Value} {M : DataW S34} (h : SnR w v M) : Sn w v M:=Or.inr h
theorem ite_false_ {c : Bool} {p q : Prop} (h : c = false) (k : q) : if c = true then p else q:=by
 rw [h]
 exact k
theorem news_go (sm : S34 → S34 → Bool) (k : Nat) (key : S34 → ByteArray) (A0 : Option Addr) (c0 : Nat) (l : List S34) (ks : ByteArray) (turn : Int) (w : World) (hr0 : Kd.C k34 w A0 l.length l) (hc0 : l.length ≤ c0) (h1 : r07_Few.f k l 20 = some true) (hn : ks.size ≤ 700) (hln : l.length ≤ 20)
  (hkey : ∀ d ∈ l,def_Key.f k d.f0 d.f1 d.f2 d.f3 d.f4 d.f5 = some (key d) ∧ (key d).size ≤ 1000000 ∧ d.f3.length ≤ 1000000) (out : List S34) (hnl : newL key l [] = (out,0)) (hrn : r08_New.f k l = some (out,0))
  (hsm : ∀ x ∈ l,∀ y ∈ l,r07_Same.f k x.f0 x.f1 x.f2 x.f3 x.f4 x.f5 y.f0 y.f1 y.f2 y.f3 y.f4 y.f5 = some (sm x y)) (hds : ∀ x ∈ l,∀ y ∈ l,def_Same.f k x.f0 x.f1 x.f2 x.f3 x.f4 x.f5 y.f0 y.f1 y.f2 y.f3 y.f4 y.f5 = some (sm x y)) (hself : ∀ x ∈ l,sm x x = true)
  (hwd : ∀ d ∈ l,(key d).size ≠ 0 → Wok k d)
  (hfind : (∀ x ∈ out,x ∈ l) → ∃ (k1 : Nat) (r : Int),r08_Find.f k1 out ks = some r ∧ decide (0 ≤ r) = hasL key ks out ∧ (0 ≤ r → ∃ j : Nat,∃ h : j < out.length,r = (j : Int) ∧ key out[j] = ks))
  (hwr : (∀ x ∈ out,x ∈ l) → (∀ x ∈ out,(key x).size ≠ 0) → ∃ k2,r08_Write.f k2 out = some (strOfNums (snapO out))) :
  Calls Tryz.prog 5 #[.slice A0 l.length c0,.string ks,.int .i64 turn] w fun e w'=>e = .returned (.bool true) ∧ Below w.heap.size w w':=by
 have hu34:=Tryz.underlying34
 have hnk:=new_mapK (key:=key) l (out:=[]) List.Pairwise.nil
 rw [hnl] at hnk
 obtain ⟨hn0,hn1,_⟩:=hnk
 obtain ⟨hn2,hris⟩:=hn1 rfl
 have hng : newGo key l (.map []) = (mapK key out,0):=Prod.ext hn2 hn0
 have hap:=newL_apart (key:=key) (l:=l) (out:=[]) List.Pairwise.nil (by rw [hnl])
 have hol:=newL_len (key:=key) l []
 rw [hnl,List.length_nil] at hol
 have hol : out.length ≤ 20:=by show out.length ≤ 20;have h_ : out.length ≤ 0 + l.length:=hol;omega
 have hom : ∀ x ∈ out,x ∈ l:=fun x hx=>by
  have h_:=newL_mem (key:=key) l [] x (by rw [hnl];exact hx)
  rcases h_ with h_ | h_
  ·exact h_
  ·cases h_
 have hnt:=newL_turn (key:=key) (turned_perm l turn (by omega)) (by rw [hnl])
 rw [hnl] at hnt
 have hnk2:=new_mapK (key:=key) (turnedD l turn) (out:=[]) List.Pairwise.nil
 rw [hnt] at hnk2
 have hng2 : newGo key (turnedD l turn) (.map []) = (mapK key out,0):=Prod.ext (hnk2.2.1 rfl).1 hnk2.1
 obtain ⟨k1,r,hfd,hfr,hfj⟩:=hfind hom
 obtain ⟨k2,hrw⟩:=hwr hom (fun x hx=>hap.1 x (hom x hx))
 obtain ⟨sX,hsX⟩ : ∃ sX,sX = strOfNums (snapO out):=⟨_,rfl⟩
 obtain ⟨ob,hob⟩ : ∃ ob,snapO out = ob:=⟨_,rfl⟩
 rw [← hsX] at hrw
 rw [hob] at hsX
 have zw : ((strOfNums ob).toList == sX.toList) = true:=by rw [hsX];exact beq_self_eq_true _
 have HOB:=As.mk hob
 have HRW:=As.mk hrw
 have HC0:=As.mk hc0
 have HR0:=As.mk hr0
 have HF1:=As.mk h1
 have HLN:=As.mk hln
 have HLN4:=As.mk (show l.length ≤ 400 by omega)
 have HKEY:=As.mk hkey
 have HKT:=As.mk (fun d hd=>hkey d ((turned_perm l turn (by omega)).mem_iff.1 hd))
 have HLT4:=As.mk (show (turnedD l turn).length ≤ 400 by rw [turned_len];omega)
 have HNG2:=As.mk hng2
 have HOL:=As.mk (show out.length ≤ 1000 by omega)
 have HOL5:=As.mk (show out.length ≤ 500 by omega)
 have HOV:=As.mk (fun y hy=>(hkey y (hom y hy)).2.2)
 have HRS:=As.mk (fun x hx y hy=>hsm x (hom x hx) y (hom y hy))
 have HDS:=As.mk (fun x hx y hy=>hds x (hom x hx) y (hom y hy))
 have HOE:=As.mk (fun x hx=>hself x (hom x hx))
 have HWD:=As.mk (fun d hd=>hwd d (hom d hd) (hap.1 d (hom d hd)))
 have HRIS:=As.mk hris
 have HFD:=As.mk hfd
 have HFR:=As.mk hfr
 have HFJ:=As.mk hfj
 have HKM:=As.mk (show ks.size ≤ maxLen from Nat.le_trans hn (by decide))
 have HNE:=As.mk (fun d hd=>hap.1 d (hom d hd))
 obtain ⟨M0,hM0⟩ : ∃ M0,M0 = mapK key out:=⟨_,rfl⟩
 rw [← hM0] at hng
 have HM0:=As.mk hM0
 obtain ⟨en,hen⟩ : ∃ en : Int,en = 0:=⟨_,rfl⟩
 obtain ⟨rn,hrn0⟩ : ∃ rn : Int,rn = 0:=⟨_,rfl⟩
 have z1 : (en != rn) = false:=by rw [hen,hrn0];rfl
 have z2 : (rn == 0) = true:=by rw [hrn0];rfl
 have z3 : (rn != 0) = false:=by rw [hrn0];rfl
 rw [← hen] at hng
 rw [← hrn0] at hrn
 have HEN:=As.mk hen
 have HNG:=As.mk hng
 have HRN:=As.mk hrn
 have HB:=As.mk (Below.refl w.heap.size w)
 have ca_ : decide ((700 : Int) < (ks.size : Int)) = false:=decide_eq_false (by omega)
 have cb_ : ((700 : Int) < (ks.size : Int)) = False:=eq_false (by omega)
 clear hc0 hr0 h1 hn hln hkey hng hng2 hnk2 hnt hap hol hom hn0 hn2 hris hn1 hsm hds hself hwd hfind hwr hfd hfr hfj hrw hsX hnl hrn hM0 hen hrn0 hob
 go_enter Tryz.func5,Tryz.ntmps5
 go_upto_region 5 with (first | (go_at_call 15;(with_reducible refine (awake_calls _).mono ?_);rintro e wa ⟨rfl,hb_⟩;have n0_:=As.mk (bS (by repeat (first | (with_reducible first | exact HB.out | apply bA | apply bN | apply bD) | exact HB.out)) hb_);clear HB hb_;have HB:=n0_;clear n0_) | (go_at_call 16;(with_reducible refine (r07_Few.calls k A0 c0 l 20 _ _ ?s1 HC0.out HF1.out).mono ?_);(case s1=>exact Kd.C_below HR0.out (by repeat (first | (with_reducible first | exact HB.out | apply bA | apply bN | apply bD) | exact HB.out)));rintro e wb ⟨rfl,hb_⟩;have n0_:=As.mk (bS (by repeat (first | (with_reducible first | exact HB.out | apply bA | apply bN | apply bD) | exact HB.out)) hb_);clear HB hb_;have HB:=n0_;clear n0_) | (go_at_call 17;(with_reducible refine (new_gen key k A0 c0 l _ M0 en ?s1 HC0.out HLN4.out HKEY.out HNG.out).mono ?_);(case s1=>exact Kd.C_below HR0.out (by repeat (first | (with_reducible first | exact HB.out | apply bA | apply bN | apply bD) | exact HB.out)));rintro e w3 ⟨p0,rfl,hg_,hbad_,hb_⟩;have HSG:=As.mk hg_;have HSB:=As.mk hbad_;have n0_:=As.mk (bS (by repeat (first | (with_reducible first | exact HB.out | apply bA | apply bN | apply bD) | exact HB.out)) hb_);clear HB hb_;have HB:=n0_;clear n0_;clear hg_ hbad_) | (go_at_call 18;(with_reducible refine (r08_New.calls k (fun _=>True) A0 c0 l out rn _ ?s1 HRN.out).mono ?_);(case s1=>exact V_of_C (Kd.C_below HR0.out (by repeat (first | (with_reducible first | exact HB.out | apply bA | apply bN | apply bD) | exact HB.out))) HC0.out);rintro e w4 ⟨vw,rfl,hN_,hb_⟩;obtain ⟨Aw,cw,rfl,hV_⟩:=VT (base':=0) hN_;have HV:=As.mk hV_;have mHSG_:=As.mk (fun h_ : en = 0=>(HSG.out h_).below hb_);clear HSG;have HSG:=mHSG_;clear mHSG_;have n0_:=As.mk (bS (by repeat (first | (with_reducible first | exact HB.out | apply bA | apply bN | apply bD) | exact HB.out)) hb_);clear HB hb_;have HB:=n0_;clear n0_;clear hN_ hV_))
 clear ca_ cb_
 have hsg:=HSG.out HEN.out
 rw [HM0.out] at hsg
 obtain ⟨gs,bs,he_,hcs_,hms_⟩:=hsg
 injection he_ with he_
 subst he_
 have HSN:=As.mk (show SnR w4 (.pointer (some ⟨gs,0,none⟩)) (mapK key out) from ⟨gs,bs,rfl,hcs_,hms_⟩)
 have HCW:=As.mk (VC HV.out).2
 have HR4:=As.mk (Kd.C_below HR0.out HB.out)
 have HBW:=HB
 clear HB hcs_ hms_ HSG HSB HR0 HRN HNG HM0 HEN
 have HB:=As.mk (Below.refl w4.heap.size w4)
 go_wp2_with (fail)
 go_loopg [11,12] l.length (fun kq v11 v12 w'=>∃ (x : Nat),v12 = .int .i64 (x : Int) ∧ x ≤ l.length ∧ As (kq + x = l.length) ∧ As (Kd.N k34 34 w' w4.heap.size (fun _=>True) v11 ((turnedD l turn).take x)) ∧ As (Below w4.heap.size w4 w'))
 case atStart=>exact ⟨0,rfl,Nat.zero_le _,⟨rfl⟩,⟨Kd.N_nil _ _ _ _ _⟩,⟨(by repeat (first | (with_reducible first | exact HB.out | apply bA | apply bN | apply bD) | exact HB.out))⟩⟩
 case round =>
  clear HB
  obtain ⟨x,rfl,p1,HKQ,HO,HB⟩:=hrel
  by_cases hlt : x < l.length
  case pos =>
   have c0_ : decide ((x : Int) < (l.length : Int)) = true:=decide_eq_true (by omega)
   have HX:=As.mk (show x < l.length ∧ l.length ≤ 20 from ⟨hlt,HLN.out⟩)
   have hw1 : wrap64 ((x : Int) + 1) = ((x + 1 : Nat) : Int):=by rw [IntWalk.wrap64_in _ (by have:=HLN.out;omega)];omega
   obtain ⟨R_,hR_⟩ : ∃ R,R = Int.tmod (wrap64 (Int.tmod turn (l.length : Int) + (l.length : Int))) (l.length : Int):=⟨_,rfl⟩
   have HRV:=As.mk (show r01_Rest.f turn (l.length : Int) = some R_ by rw [hR_];exact rest_val turn l.length (by omega))
   obtain ⟨P_,hP_⟩ : ∃ P,P = placeT l.length turn x:=⟨_,rfl⟩
   have hPV : Int.tmod (wrap64 ((x : Int) + R_)) (l.length : Int) = P_:=by rw [hP_,hR_];rfl
   have hPI:=place_in l.length turn x hlt (by have:=HLN.out;omega)
   rw [← hP_] at hPI
   have HTA:=As.mk (show (turnedD l turn).take (x + 1) = (turnedD l turn).take x ++ [rd_T34 l P_] by rw [List.take_succ_eq_append_getElem (by rw [turned_len];exact hlt),turned_at,hP_])
   obtain ⟨ad,A2,c2,e_,q0,q1,q2,q3,q4,q5,hl2,hi2⟩:=at_T34 HR4.out P_ hPI.1 hPI.2
   have HK:=As.mk (k34_mk w4 (rd_T34 l P_) hl2 hi2)
   subst e_
   replace q0:=(HB.out.cell (World.block_lt_of_cell? w4 _ q0)).trans q0
   replace q1:=(HB.out.cell (World.block_lt_of_cell? w4 _ q1)).trans q1
   replace q2:=(HB.out.cell (World.block_lt_of_cell? w4 _ q2)).trans q2
   replace q3:=(HB.out.cell (World.block_lt_of_cell? w4 _ q3)).trans q3
   replace q4:=(HB.out.cell (World.block_lt_of_cell? w4 _ q4)).trans q4
   replace q5:=(HB.out.cell (World.block_lt_of_cell? w4 _ q5)).trans q5
   have p0_ : (0 ≤ P_) = True:=eq_true hPI.1
   have p1_ : (P_ < (l.length : Int)) = True:=eq_true hPI.2
   have hz_ : ((l.length : Int) = 0) = False:=eq_false (by omega)
   have hz2_ : ((l.length : Int) == 0) = false:=beq_eq_false_iff_ne.mpr (by omega)
   clear hl2 hi2 hR_ hP_ hPI
   go_wp2_with (first | (go_at_call 31;(with_reducible refine (r01_Rest.calls turn (l.length : Int) R_ _ HRV.out).mono ?_);rintro er w1 ⟨rfl,⟨m1,rfl⟩⟩) | ((with_reducible refine gB (b:=.append) (xs:=#[.tmp 59,.tmp 72]) rfl ?_);at_builtin;refine Kd.N_append k34 (w0:=w4) w4.heap.size rfl (.tmp 59) (.tmp 72) 22 34 (.agg #[.int .i64 0,.string ⟨#[]⟩,.string ⟨#[]⟩,.slice none 0 0,.string ⟨#[]⟩,.string ⟨#[]⟩]) 96 rfl Tryz.underlying22 infoD_ rfl (by decide) (by decide) u11 ((turnedD l turn).take x) (rd_T34 l P_) [.int .i64 (rd_T34 l P_).f0,.string (rd_T34 l P_).f1,.string (rd_T34 l P_).f2,.slice A2 (rd_T34 l P_).f3.length c2,.string (rd_T34 l P_).f4,.string (rd_T34 l P_).f5] (fun _=>True) (fun k=>k < w4.heap.size) rfl rfl ?aP ?aN (fun _ _=>trivial) ?aO ?aB ?aS ?aL ?_;(case aP=>exact fk_old HK.out (by repeat (first | (with_reducible first | exact HB.out | apply bA | apply bN | apply bD) | exact HB.out)));(case aN=>exact fun k hk=>⟨trivial,fun he=>by have:=n_base HO.out k he.symm;omega⟩);(case aO=>first | exact HO.out | exact Kd.N_drewN HO.out _ | exact Kd.N_below HO.out (bN (Below.refl _ _) _));(case aB=>exact (by repeat (first | (with_reducible first | exact HB.out | apply bA | apply bN | apply bD) | exact HB.out)));(case aS=>exact ((by repeat (first | (with_reducible first | exact HB.out | apply bA | apply bN | apply bD) | exact HB.out)) : Below w4.heap.size w4 _).size);(case aL=>have:=HX.out;rw [List.length_take];omega);intro v9 w9 ho hb2_ hg_ hat_;have n0_:=As.mk ho;have n1_:=As.mk hb2_;clear HO HB ho hb2_ hg_ hat_;have HO:=n0_;have HB:=n1_;clear n0_ n1_))
   go_roundg (gk - 1)
   case measure=>have:=HKQ.out;omega
   case rel=>exact ⟨x + 1,(by first | rfl | rw [hw1]),by have:=HX.out;omega,⟨by have:=HKQ.out;have:=HX.out;omega⟩,⟨by rw [HTA.out];exact HO.out⟩,⟨(by repeat (first | (with_reducible first | exact HB.out | apply bA | apply bN | apply bD) | exact HB.out))⟩⟩
  case neg =>
   have c0_ : decide ((x : Int) < (l.length : Int)) = false:=decide_eq_false (by omega)
   have c1_ : ((x : Int) < (l.length : Int)) = False:=eq_false (by omega)
   have c2_ : (x < l.length) = False:=eq_false hlt
   obtain rfl : x = l.length:=by omega
   have HO2:=As.mk (show Kd.N k34 34 wr w4.heap.size (fun _=>True) u11 (turnedD l turn) by have h_:=HO.out;rwa [List.take_of_length_le (by rw [turned_len];exact Nat.le_refl _)] at h_)
   obtain ⟨Ao,co,rfl,hlo,hCo⟩:=Kd.N_reads HO2.out
   have HCO:=As.mk hCo
   have HLO:=As.mk hlo
   have HBO:=As.mk (Below.refl wr.heap.size wr)
   clear HO hlt HKQ p1 hCo hlo HO2
   by_cases hk0 : ks = ⟨#[]⟩
   case pos=>as_aux_lemma =>
    have hh : hasL key ks out = false:=has_false.2 fun y hy e=>HNE.out y hy (by rw [e,hk0];rfl)
    have HHAS:=As.mk (show Maps.has (mapK key out) (KL ks) = false by rw [has_mapK];exact hh)
    have zk : (ks.toList == ([] : List UInt8)) = true:=beq_iff_eq.mpr (by rw [hk0,Lib.toList_data])
    clear hh hk0 HFJ HFR
    go_upto_region 16 with (first | (go_at_call 17;(with_reducible refine (new_gen key k Ao co (turnedD l turn) _ (mapK key out) 0 ?s1 HLO.out HLT4.out HKT.out HNG2.out).mono ?_);(case s1=>exact Kd.C_below HCO.out (by repeat (first | (with_reducible first | exact HBO.out | apply bA | apply bN | apply bD) | exact HBO.out)));rintro e w5 ⟨pt,rfl,hg_,_,hb_⟩;obtain ⟨gt,bt,he_,hct_,hmt_⟩:=hg_ rfl;(injection he_ with he_);subst he_;have HTN:=As.mk (show SnR w5 (.pointer (some ⟨gt,0,none⟩)) (mapK key out) from ⟨gt,bt,rfl,hct_,hmt_⟩);have n0_:=As.mk (bS (by repeat (first | (with_reducible first | exact HB.out | apply bA | apply bN | apply bD) | exact HB.out)) hb_);clear HB hb_;have HB:=n0_;clear n0_;clear hct_ hmt_ HBO) | (go_at_call 32;(with_reducible refine (get_no _ (some ⟨gs,0,none⟩) (mapK key out) ks ?s1 HKM.out HHAS.out).mono ?_);(case s1=>exact HSN.out.below (by repeat (first | (with_reducible first | exact HB.out | apply bA | apply bN | apply bD) | exact HB.out)));rintro e wg ⟨A3,c3,rfl,hC3_,hb_⟩;have HC3:=As.mk hC3_;have mHTN_:=As.mk (HTN.out.below hb_);clear HTN;have HTN:=mHTN_;clear mHTN_;have n0_:=As.mk (bS (by repeat (first | (with_reducible first | exact HB.out | apply bA | apply bN | apply bD) | exact HB.out)) hb_);clear HB hb_;have HB:=n0_;clear n0_;clear hC3_))
    have bk_:=blk_new wg (Obj.cells #[.int .i64 0,.string ⟨#[]⟩,.string ⟨#[]⟩,.slice A3 0 c3,.string ⟨#[]⟩,.string ⟨#[]⟩] 34)
    have hb_:=bA (Below.refl wg.heap.size wg) (Obj.cells #[.int .i64 0,.string ⟨#[]⟩,.string ⟨#[]⟩,.slice A3 0 c3,.string ⟨#[]⟩,.string ⟨#[]⟩] 34)
    generalize wg.alloc (Obj.cells #[.int .i64 0,.string ⟨#[]⟩,.string ⟨#[]⟩,.slice A3 0 c3,.string ⟨#[]⟩,.string ⟨#[]⟩] 34) = W15 at bk_ hb_ ⊢
    obtain ⟨g15,hg15⟩ : ∃ g15,g15 = wg.heap.size:=⟨_,rfl⟩
    rw [← hg15] at bk_ ⊢
    clear hg15
    have BK:=As.mk bk_
    have mHTN_:=As.mk (HTN.out.below hb_);clear HTN;have HTN:=mHTN_;clear mHTN_
    have mHC3_:=As.mk (Kd.C_below HC3.out hb_);clear HC3;have HC3:=mHC3_;clear mHC3_
    have n0_:=As.mk (bS HB.out hb_)
    clear HB hb_ bk_
    have HB:=n0_
    clear n0_
    go_upto_region 19 with (first | (go_at_call 33;(with_reducible refine (r08_Find.calls k1 Aw cw out ks r _ ?s1 HCW.out HFD.out).mono ?_);(case s1=>exact (VC (Kd.V_below HV.out (by repeat (first | (with_reducible first | exact HB.out | apply bA | apply bN | apply bD) | exact HB.out)))).1);rintro e wf ⟨rfl,hb_⟩;have mHTN_:=As.mk (HTN.out.below hb_);clear HTN;have HTN:=mHTN_;clear mHTN_;have mHC3_:=As.mk (Kd.C_below HC3.out hb_);clear HC3;have HC3:=mHC3_;clear mHC3_;have mBK_:=As.mk (blk_below BK.out hb_);clear BK;have BK:=mBK_;clear mBK_;have n0_:=As.mk (bS (by repeat (first | (with_reducible first | exact HB.out | apply bA | apply bN | apply bD) | exact HB.out)) hb_);clear HB hb_;have HB:=n0_;clear n0_))
    have Q0:=As.mk (show wf.cell? ⟨g15,0,none⟩ = some (.int .i64 0) from (bC BK.out 0).trans rfl)
    have Q1:=As.mk (show wf.cell? ⟨g15,1,none⟩ = some (.string ⟨#[]⟩) from (bC BK.out 1).trans rfl)
    have Q2:=As.mk (show wf.cell? ⟨g15,2,none⟩ = some (.string ⟨#[]⟩) from (bC BK.out 2).trans rfl)
    have Q3:=As.mk (show wf.cell? ⟨g15,3,none⟩ = some (.slice A3 0 c3) from (bC BK.out 3).trans rfl)
    have Q4:=As.mk (show wf.cell? ⟨g15,4,none⟩ = some (.string ⟨#[]⟩) from (bC BK.out 4).trans rfl)
    have Q5:=As.mk (show wf.cell? ⟨g15,5,none⟩ = some (.string ⟨#[]⟩) from (bC BK.out 5).trans rfl)
    refine start_ (n:=44) (S:=fun w'=>w'.cell? ⟨g15,0,none⟩ = some (.int .i64 0) ∧ w'.cell? ⟨g15,1,none⟩ = some (.string ⟨#[]⟩) ∧ w'.cell? ⟨g15,2,none⟩ = some (.string ⟨#[]⟩) ∧ w'.cell? ⟨g15,3,none⟩ = some (.slice A3 0 c3) ∧ w'.cell? ⟨g15,4,none⟩ = some (.string ⟨#[]⟩) ∧ w'.cell? ⟨g15,5,none⟩ = some (.string ⟨#[]⟩)) (ds:=[]) #[false,false,false,false,false,false,false,false,false,false,false,false,false,false,false,false,false,false,false,false,false,false,false,false,false,false,false,false,false,false,false,false,false,false,false,false,false,false,false,false,false,false,false,false] (by kernel_rfl) rfl rfl ⟨(pC (bD (Below.refl _ wf)) Q0.out),(pC (bD (Below.refl _ wf)) Q1.out),(pC (bD (Below.refl _ wf)) Q2.out),(pC (bD (Below.refl _ wf)) Q3.out),(pC (bD (Below.refl _ wf)) Q4.out),(pC (bD (Below.refl _ wf)) Q5.out)⟩ (fun hHeld=>?_);refine with_tabW snapnews.tab19 snapnews.bits19 (fun HT_ HW_=>?_)
    have yHSN:=As.mk (HSN.out.below (bS HB.out (bD (Below.refl _ wf))))
    have yHTN:=As.mk (HTN.out.below (bD (Below.refl _ wf)))
    have yHV:=As.mk (Kd.V_below HV.out (bS HB.out (bD (Below.refl _ wf))))
    have yHC3:=As.mk (Kd.C_below HC3.out (bD (Below.refl _ wf)))
    have yQ0:=As.mk ((pC (bD (Below.refl _ wf)) Q0.out))
    have yQ1:=As.mk ((pC (bD (Below.refl _ wf)) Q1.out))
    have yQ2:=As.mk ((pC (bD (Below.refl _ wf)) Q2.out))
    have yQ3:=As.mk ((pC (bD (Below.refl _ wf)) Q3.out))
    have yQ4:=As.mk ((pC (bD (Below.refl _ wf)) Q4.out))
    have yQ5:=As.mk ((pC (bD (Below.refl _ wf)) Q5.out))
    have yB:=As.mk (bS HB.out (bD (Below.refl _ wf)))
    clear HB BK HSN HTN HV HC3 Q0 Q1 Q2 Q3 Q4 Q5
    generalize wf.drew = W19 at yHSN yHTN yHV yHC3 yQ0 yQ1 yQ2 yQ3 yQ4 yQ5 yB hHeld ⊢
    have HSN:=yHSN
    have HTN:=yHTN
    have HV:=yHV
    have HC3:=yHC3
    have Q0:=yQ0
    have Q1:=yQ1
    have Q2:=yQ2
    have Q3:=yQ3
    have Q4:=yQ4
    have Q5:=yQ5
    have HB19:=yB
    have HB:=As.mk (Below.refl W19.heap.size W19)
    clear yB yHSN yHTN yHV yHC3 yQ0 yQ1 yQ2 yQ3 yQ4 yQ5
    refine pure_ (i:=0) (N:=some 90) (v:=?_) (a':=?_) #[true,false,false,false,false,false,false,false,false,false,false,false,false,false,false,false,false,false,false,false,false,false,false,false,false,false,false,false,false,false,false,false,false,false,false,false,false,false,false,false,false,false,false,false] rfl rfl (any_of HT_.out (by kernel_rfl)) (fun _ _ _ h=>h) (Or.inl ⟨by rfl,?_⟩) ?_ ?_
    rotate_left
    ·intro w'
     go_simp
     with_reducible rfl
    rotate_left
    ·simp only [Act.put,List.setIfInBounds_toArray,List.set_cons_zero,List.set_cons_succ,i64_w,i32_w]
     rfl
    refine pure_ (i:=1) (N:=some 91) (v:=?_) (a':=?_) #[true,true,false,false,false,false,false,false,false,false,false,false,false,false,false,false,false,false,false,false,false,false,false,false,false,false,false,false,false,false,false,false,false,false,false,false,false,false,false,false,false,false,false,false] rfl rfl (any_of HT_.out (by kernel_rfl)) (fun _ _ _ h=>h) (Or.inl ⟨by rfl,?_⟩) ?_ ?_
    rotate_left
    ·intro w'
     go_simp
     with_reducible rfl
    rotate_left
    ·simp only [Act.put,List.setIfInBounds_toArray,List.set_cons_zero,List.set_cons_succ,i64_w,i32_w]
     rfl
    refine one_ (i:=2) (N:=some 92) #[true,true,true,false,false,false,false,false,false,false,false,false,false,false,false,false,false,false,false,false,false,false,false,false,false,false,false,false,false,false,false,false,false,false,false,false,false,false,false,false,false,false,false,false] rfl rfl (one_of HT_.out (by kernel_rfl)) (by decide) (fun K hK=>?_)
    refine goes_ Tryz.func21 (by kernel_rfl) rfl #[.pointer (some ⟨gs,0,none⟩),.slice Aw out.length cw] (by rfl) rfl rfl (by (try simp only [List.map_toArray,List.map_cons,List.map_nil]);first | done | rfl | (simp only [List.length_drop,List.length_take];rfl)) ?_
    with_reducible refine (is_same key sm k _ (some ⟨gs,0,none⟩) out Aw cw (Sn_of (HSN.out.below HB.out)) (Kd.V_below HV.out HB.out) HOL.out HOV.out HRS.out HOE.out).mono ?_
    rintro er wi ⟨rfl,hb_⟩
    have n0_:=As.mk (bS HB.out hb_)
    clear HB hb_
    have HB:=n0_
    clear n0_
    refine ⟨_,rfl,?_⟩
    refine hK.out _ _ ⟨(pC HB.out Q0.out),(pC HB.out Q1.out),(pC HB.out Q2.out),(pC HB.out Q3.out),(pC HB.out Q4.out),(pC HB.out Q5.out)⟩ (fun hHeld=>?_)
    clear hK K
    refine norm_ (a':=?_) ?_ ?_
    rotate_left
    ·show Act.put _ (some 92) _ = _
     simp only [Act.put,List.setIfInBounds_toArray,List.set_cons_zero,List.set_cons_succ,i64_w,i32_w]
     rfl
    refine pure_ (i:=3) (N:=some 93) (v:=?_) (a':=?_) #[true,true,true,true,false,false,false,false,false,false,false,false,false,false,false,false,false,false,false,false,false,false,false,false,false,false,false,false,false,false,false,false,false,false,false,false,false,false,false,false,false,false,false,false] rfl rfl (any_of HT_.out (by kernel_rfl)) (fun _ _ _ h=>h) (Or.inl ⟨by rfl,?_⟩) ?_ ?_
    rotate_left
    ·intro w'
     go_simp
     with_reducible rfl
    rotate_left
    ·simp only [Act.put,List.setIfInBounds_toArray,List.set_cons_zero,List.set_cons_succ,i64_w,i32_w]
     rfl
    refine pure_ (i:=4) (N:=some 94) (v:=?_) (a':=?_) #[true,true,true,true,true,false,false,false,false,false,false,false,false,false,false,false,false,false,false,false,false,false,false,false,false,false,false,false,false,false,false,false,false,false,false,false,false,false,false,false,false,false,false,false] rfl rfl (any_of HT_.out (by kernel_rfl)) (fun _ _ _ h=>h) (Or.inl ⟨by rfl,?_⟩) ?_ ?_
    rotate_left
    ·intro w'
     go_simp
     with_reducible rfl
    rotate_left
    ·simp only [Act.put,List.setIfInBounds_toArray,List.set_cons_zero,List.set_cons_succ,i64_w,i32_w]
     rfl
    refine pure_ (i:=5) (N:=some 95) (v:=?_) (a':=?_) #[true,true,true,true,true,true,false,false,false,false,false,false,false,false,false,false,false,false,false,false,false,false,false,false,false,false,false,false,false,false,false,false,false,false,false,false,false,false,false,false,false,false,false,false] rfl rfl (any_of HT_.out (by kernel_rfl)) (fun _ _ _ h=>h) (Or.inl ⟨by rfl,?_⟩) ?_ ?_
    rotate_left
    ·intro w'
     go_simp
     with_reducible rfl
    rotate_left
    ·simp only [Act.put,List.setIfInBounds_toArray,List.set_cons_zero,List.set_cons_succ,i64_w,i32_w]
     rfl
    refine pure_ (i:=6) (N:=some 96) (v:=?_) (a':=?_) #[true,true,true,true,true,true,true,false,false,false,false,false,false,false,false,false,false,false,false,false,false,false,false,false,false,false,false,false,false,false,false,false,false,false,false,false,false,false,false,false,false,false,false,false] rfl rfl (any_of HT_.out (by kernel_rfl)) (fun _ _ _ h=>h) (Or.inl ⟨by rfl,?_⟩) ?_ ?_
    rotate_left
    ·intro w'
     go_simp
     with_reducible rfl
    rotate_left
    ·simp only [Act.put,List.setIfInBounds_toArray,List.set_cons_zero,List.set_cons_succ,i64_w,i32_w]
     rfl
    refine pure_ (i:=7) (N:=some 97) (v:=?_) (a':=?_) #[true,true,true,true,true,true,true,true,false,false,false,false,false,false,false,false,false,false,false,false,false,false,false,false,false,false,false,false,false,false,false,false,false,false,false,false,false,false,false,false,false,false,false,false] rfl rfl (any_of HT_.out (by kernel_rfl)) (fun _ _ _ h=>h) (Or.inl ⟨by rfl,?_⟩) ?_ ?_
    rotate_left
    ·intro w'
     go_simp
     with_reducible rfl
    rotate_left
    ·simp only [Act.put,List.setIfInBounds_toArray,List.set_cons_zero,List.set_cons_succ,i64_w,i32_w]
     rfl
    refine pure_ (i:=8) (N:=some 98) (v:=?_) (a':=?_) #[true,true,true,true,true,true,true,true,true,false,false,false,false,false,false,false,false,false,false,false,false,false,false,false,false,false,false,false,false,false,false,false,false,false,false,false,false,false,false,false,false,false,false,false] rfl rfl (any_of HT_.out (by kernel_rfl)) (fun _ _ _ h=>h) (Or.inl ⟨by rfl,?_⟩) ?_ ?_
    rotate_left
    ·intro w'
     go_simp
     with_reducible rfl
    rotate_left
    ·simp only [Act.put,List.setIfInBounds_toArray,List.set_cons_zero,List.set_cons_succ,i64_w,i32_w]
     rfl
    refine pure_ (i:=9) (N:=some 99) (v:=?_) (a':=?_) #[true,true,true,true,true,true,true,true,true,true,false,false,false,false,false,false,false,false,false,false,false,false,false,false,false,false,false,false,false,false,false,false,false,false,false,false,false,false,false,false,false,false,false,false] rfl rfl (any_of HT_.out (by kernel_rfl)) (fun _ _ _ h=>h) (Or.inl ⟨by rfl,?_⟩) ?_ ?_
    rotate_left
    ·intro w'
     go_simp
     with_reducible rfl
    rotate_left
    ·simp only [Act.put,List.setIfInBounds_toArray,List.set_cons_zero,List.set_cons_succ,i64_w,i32_w]
     rfl
    refine one_ (i:=10) (N:=some 100) #[true,true,true,true,true,true,true,true,true,true,true,false,false,false,false,false,false,false,false,false,false,false,false,false,false,false,false,false,false,false,false,false,false,false,false,false,false,false,false,false,false,false,false,false] rfl rfl (one_of HT_.out (by kernel_rfl)) (by decide) (fun K hK=>?_)
    refine goes_ Tryz.func34 (by kernel_rfl) rfl #[.pointer (some ⟨gs,0,none⟩),.pointer (some ⟨gt,0,none⟩)] (by rfl) rfl rfl (by (try simp only [List.map_toArray,List.map_cons,List.map_nil]);first | done | rfl | (simp only [List.length_drop,List.length_take];rfl)) ?_
    with_reducible refine (same_self key sm k _ _ _ out (HSN.out.below HB.out) (HTN.out.below HB.out) HOL.out HDS.out HOE.out).mono ?_
    rintro er w10 ⟨rfl,hb_⟩
    have n0_:=As.mk (bS HB.out hb_)
    clear HB hb_
    have HB:=n0_
    clear n0_
    refine ⟨_,rfl,?_⟩
    refine hK.out _ _ ⟨(pC HB.out Q0.out),(pC HB.out Q1.out),(pC HB.out Q2.out),(pC HB.out Q3.out),(pC HB.out Q4.out),(pC HB.out Q5.out)⟩ (fun hHeld=>?_)
    clear hK K
    refine norm_ (a':=?_) ?_ ?_
    rotate_left
    ·show Act.put _ (some 100) _ = _
     simp only [Act.put,List.setIfInBounds_toArray,List.set_cons_zero,List.set_cons_succ,i64_w,i32_w]
     rfl
    refine pure_ (i:=11) (N:=some 101) (v:=?_) (a':=?_) #[true,true,true,true,true,true,true,true,true,true,true,true,false,false,false,false,false,false,false,false,false,false,false,false,false,false,false,false,false,false,false,false,false,false,false,false,false,false,false,false,false,false,false,false] rfl rfl (any_of HT_.out (by kernel_rfl)) (fun _ _ _ h=>h) (Or.inl ⟨by rfl,?_⟩) ?_ ?_
    rotate_left
    ·intro w'
     go_simp
     with_reducible rfl
    rotate_left
    ·simp only [Act.put,List.setIfInBounds_toArray,List.set_cons_zero,List.set_cons_succ,i64_w,i32_w]
     rfl
    refine pure_ (i:=12) (N:=some 102) (v:=?_) (a':=?_) #[true,true,true,true,true,true,true,true,true,true,true,true,true,false,false,false,false,false,false,false,false,false,false,false,false,false,false,false,false,false,false,false,false,false,false,false,false,false,false,false,false,false,false,false] rfl rfl (any_of HT_.out (by kernel_rfl)) (fun _ _ _ h=>h) (Or.inl ⟨by rfl,?_⟩) ?_ ?_
    rotate_left
    ·intro w'
     go_simp
     with_reducible rfl
    rotate_left
    ·simp only [Act.put,List.setIfInBounds_toArray,List.set_cons_zero,List.set_cons_succ,i64_w,i32_w]
     rfl
    refine pure_ (i:=13) (N:=some 103) (v:=?_) (a':=?_) #[true,true,true,true,true,true,true,true,true,true,true,true,true,true,false,false,false,false,false,false,false,false,false,false,false,false,false,false,false,false,false,false,false,false,false,false,false,false,false,false,false,false,false,false] rfl rfl (any_of HT_.out (by kernel_rfl)) (fun _ _ _ h=>h) (Or.inl ⟨by rfl,?_⟩) ?_ ?_
    rotate_left
    ·intro w'
     go_simp
     with_reducible rfl
    rotate_left
    ·simp only [Act.put,List.setIfInBounds_toArray,List.set_cons_zero,List.set_cons_succ,i64_w,i32_w]
     rfl
    refine pure_ (i:=14) (N:=some 104) (v:=?_) (a':=?_) #[true,true,true,true,true,true,true,true,true,true,true,true,true,true,true,false,false,false,false,false,false,false,false,false,false,false,false,false,false,false,false,false,false,false,false,false,false,false,false,false,false,false,false,false] rfl rfl (any_of HT_.out (by kernel_rfl)) (fun _ _ _ h=>h) (Or.inl ⟨by rfl,?_⟩) ?_ ?_
    rotate_left
    ·intro w'
     go_simp
     with_reducible rfl
    rotate_left
    ·simp only [Act.put,List.setIfInBounds_toArray,List.set_cons_zero,List.set_cons_succ,i64_w,i32_w]
     rfl
    refine one_ (i:=15) (N:=some 105) #[true,true,true,true,true,true,true,true,true,true,true,true,true,true,true,true,false,false,false,false,false,false,false,false,false,false,false,false,false,false,false,false,false,false,false,false,false,false,false,false,false,false,false,false] rfl rfl (one_of HT_.out (by kernel_rfl)) (by decide) (fun K hK=>?_)
    refine goes_ Tryz.func34 (by kernel_rfl) rfl #[.pointer (some ⟨gt,0,none⟩),.pointer (some ⟨gs,0,none⟩)] (by rfl) rfl rfl (by (try simp only [List.map_toArray,List.map_cons,List.map_nil]);first | done | rfl | (simp only [List.length_drop,List.length_take];rfl)) ?_
    with_reducible refine (same_self key sm k _ _ _ out (HTN.out.below HB.out) (HSN.out.below HB.out) HOL.out HDS.out HOE.out).mono ?_
    rintro er w15 ⟨rfl,hb_⟩
    have n0_:=As.mk (bS HB.out hb_)
    clear HB hb_
    have HB:=n0_
    clear n0_
    refine ⟨_,rfl,?_⟩
    refine hK.out _ _ ⟨(pC HB.out Q0.out),(pC HB.out Q1.out),(pC HB.out Q2.out),(pC HB.out Q3.out),(pC HB.out Q4.out),(pC HB.out Q5.out)⟩ (fun hHeld=>?_)
    clear hK K
    refine norm_ (a':=?_) ?_ ?_
    rotate_left
    ·show Act.put _ (some 105) _ = _
     simp only [Act.put,List.setIfInBounds_toArray,List.set_cons_zero,List.set_cons_succ,i64_w,i32_w]
     rfl
    refine pure_ (i:=16) (N:=some 106) (v:=?_) (a':=?_) #[true,true,true,true,true,true,true,true,true,true,true,true,true,true,true,true,true,false,false,false,false,false,false,false,false,false,false,false,false,false,false,false,false,false,false,false,false,false,false,false,false,false,false,false] rfl rfl (any_of HT_.out (by kernel_rfl)) (fun _ _ _ h=>h) (Or.inl ⟨by rfl,?_⟩) ?_ ?_
    rotate_left
    ·intro w'
     go_simp
     with_reducible rfl
    rotate_left
    ·simp only [Act.put,List.setIfInBounds_toArray,List.set_cons_zero,List.set_cons_succ,i64_w,i32_w]
     rfl
    refine pure_ (i:=17) (N:=some 107) (v:=?_) (a':=?_) #[true,true,true,true,true,true,true,true,true,true,true,true,true,true,true,true,true,true,false,false,false,false,false,false,false,false,false,false,false,false,false,false,false,false,false,false,false,false,false,false,false,false,false,false] rfl rfl (any_of HT_.out (by kernel_rfl)) (fun _ _ _ h=>h) (Or.inl ⟨by rfl,?_⟩) ?_ ?_
    rotate_left
    ·intro w'
     go_simp
     with_reducible rfl
    rotate_left
    ·simp only [Act.put,List.setIfInBounds_toArray,List.set_cons_zero,List.set_cons_succ,i64_w,i32_w]
     rfl
    refine pure_ (i:=18) (N:=some 108) (v:=?_) (a':=?_) #[true,true,true,true,true,true,true,true,true,true,true,true,true,true,true,true,true,true,true,false,false,false,false,false,false,false,false,false,false,false,false,false,false,false,false,false,false,false,false,false,false,false,false,false] rfl rfl (any_of HT_.out (by kernel_rfl)) (fun _ _ _ h=>h) (Or.inl ⟨by rfl,?_⟩) ?_ ?_
    rotate_left
    ·intro w'
     go_simp
     with_reducible rfl
    rotate_left
    ·simp only [Act.put,List.setIfInBounds_toArray,List.set_cons_zero,List.set_cons_succ,i64_w,i32_w]
     rfl
    refine pure_ (i:=19) (N:=some 109) (v:=?_) (a':=?_) #[true,true,true,true,true,true,true,true,true,true,true,true,true,true,true,true,true,true,true,true,false,false,false,false,false,false,false,false,false,false,false,false,false,false,false,false,false,false,false,false,false,false,false,false] rfl rfl (any_of HT_.out (by kernel_rfl)) (fun _ _ _ h=>h) (Or.inl ⟨by rfl,?_⟩) ?_ ?_
    rotate_left
    ·intro w'
     go_simp
     with_reducible rfl
    rotate_left
    ·simp only [Act.put,List.setIfInBounds_toArray,List.set_cons_zero,List.set_cons_succ,i64_w,i32_w]
     rfl
    refine pure_ (i:=20) (N:=some 110) (v:=?_) (a':=?_) #[true,true,true,true,true,true,true,true,true,true,true,true,true,true,true,true,true,true,true,true,true,false,false,false,false,false,false,false,false,false,false,false,false,false,false,false,false,false,false,false,false,false,false,false] rfl rfl (any_of HT_.out (by kernel_rfl)) (fun _ _ _ h=>h) (Or.inl ⟨by rfl,?_⟩) ?_ ?_
    rotate_left
    ·intro w'
     go_simp
     with_reducible rfl
    rotate_left
    ·simp only [Act.put,List.setIfInBounds_toArray,List.set_cons_zero,List.set_cons_succ,i64_w,i32_w]
     rfl
    refine pure_ (i:=21) (N:=some 111) (v:=?_) (a':=?_) #[true,true,true,true,true,true,true,true,true,true,true,true,true,true,true,true,true,true,true,true,true,true,false,false,false,false,false,false,false,false,false,false,false,false,false,false,false,false,false,false,false,false,false,false] rfl rfl (any_of HT_.out (by kernel_rfl)) (fun _ _ _ h=>h) (Or.inl ⟨by rfl,?_⟩) ?_ ?_
    rotate_left
    ·intro w'
     go_simp
     with_reducible rfl
    rotate_left
    ·simp only [Act.put,List.setIfInBounds_toArray,List.set_cons_zero,List.set_cons_succ,i64_w,i32_w]
     rfl
    refine pure_ (i:=22) (N:=some 112) (v:=?_) (a':=?_) #[true,true,true,true,true,true,true,true,true,true,true,true,true,true,true,true,true,true,true,true,true,true,true,false,false,false,false,false,false,false,false,false,false,false,false,false,false,false,false,false,false,false,false,false] rfl rfl (any_of HT_.out (by kernel_rfl)) (fun _ _ _ h=>h) (Or.inl ⟨by rfl,?_⟩) ?_ ?_
    rotate_left
    ·intro w'
     go_simp
     with_reducible rfl
    rotate_left
    ·simp only [Act.put,List.setIfInBounds_toArray,List.set_cons_zero,List.set_cons_succ,i64_w,i32_w]
     rfl
    refine pure_ (i:=23) (N:=some 113) (v:=?_) (a':=?_) #[true,true,true,true,true,true,true,true,true,true,true,true,true,true,true,true,true,true,true,true,true,true,true,true,false,false,false,false,false,false,false,false,false,false,false,false,false,false,false,false,false,false,false,false] rfl rfl (any_of HT_.out (by kernel_rfl)) (fun _ _ _ h=>h) (Or.inl ⟨by rfl,?_⟩) ?_ ?_
    rotate_left
    ·intro w'
     go_simp
     with_reducible rfl
    rotate_left
    ·simp only [Act.put,List.setIfInBounds_toArray,List.set_cons_zero,List.set_cons_succ,i64_w,i32_w]
     rfl
    refine pure_ (i:=24) (N:=some 114) (v:=?_) (a':=?_) #[true,true,true,true,true,true,true,true,true,true,true,true,true,true,true,true,true,true,true,true,true,true,true,true,true,false,false,false,false,false,false,false,false,false,false,false,false,false,false,false,false,false,false,false] rfl rfl (any_of HT_.out (by kernel_rfl)) (fun _ _ _ h=>h) (Or.inl ⟨by rfl,?_⟩) ?_ ?_
    rotate_left
    ·intro w'
     go_simp
     with_reducible rfl
    rotate_left
    ·simp only [Act.put,List.setIfInBounds_toArray,List.set_cons_zero,List.set_cons_succ,i64_w,i32_w]
     rfl
    refine pure_ (i:=25) (N:=some 115) (v:=?_) (a':=?_) #[true,true,true,true,true,true,true,true,true,true,true,true,true,true,true,true,true,true,true,true,true,true,true,true,true,true,false,false,false,false,false,false,false,false,false,false,false,false,false,false,false,false,false,false] rfl rfl (any_of HT_.out (by kernel_rfl)) (fun _ _ _ h=>h) (Or.inl ⟨by rfl,?_⟩) ?_ ?_
    rotate_left
    ·intro w'
     go_simp
     with_reducible rfl
    rotate_left
    ·simp only [Act.put,List.setIfInBounds_toArray,List.set_cons_zero,List.set_cons_succ,i64_w,i32_w]
     rfl
    refine pure_ (i:=26) (N:=some 116) (v:=?_) (a':=?_) #[true,true,true,true,true,true,true,true,true,true,true,true,true,true,true,true,true,true,true,true,true,true,true,true,true,true,true,false,false,false,false,false,false,false,false,false,false,false,false,false,false,false,false,false] rfl rfl (any_of HT_.out (by kernel_rfl)) (fun _ _ _ h=>h) (Or.inl ⟨by rfl,?_⟩) ?_ ?_
    rotate_left
    ·intro w'
     go_simp
     with_reducible rfl
    rotate_left
    ·simp only [Act.put,List.setIfInBounds_toArray,List.set_cons_zero,List.set_cons_succ,i64_w,i32_w]
     rfl
    refine take_ (i:=27) (N:=some 117) (v:=undef) (a':=?_) #[true,true,true,true,true,true,true,true,true,true,true,true,true,true,true,true,true,true,true,true,true,true,true,true,true,true,true,true,false,false,false,false,false,false,false,false,false,false,false,false,false,false,false,false] rfl rfl (take_ofW HT_.out HW_.out (by kernel_rfl)) (fun _ _ _ h=>h) (Or.inr ⟨by rfl,rfl⟩) hHeld ?_ ?_
    rotate_left
    ·simp only [Act.put,List.setIfInBounds_toArray,List.set_cons_zero,List.set_cons_succ,i64_w,i32_w]
     rfl
    refine pure_ (i:=28) (N:=some 118) (v:=undef) (a':=?_) #[true,true,true,true,true,true,true,true,true,true,true,true,true,true,true,true,true,true,true,true,true,true,true,true,true,true,true,true,true,false,false,false,false,false,false,false,false,false,false,false,false,false,false,false] rfl rfl (any_of HT_.out (by kernel_rfl)) (fun _ _ _ h=>h) (Or.inr ⟨by rfl,rfl⟩) ?_ ?_
    rotate_left
    ·simp only [Act.put,List.setIfInBounds_toArray,List.set_cons_zero,List.set_cons_succ,i64_w,i32_w]
     rfl
    refine pure_ (i:=29) (N:=some 119) (v:=undef) (a':=?_) #[true,true,true,true,true,true,true,true,true,true,true,true,true,true,true,true,true,true,true,true,true,true,true,true,true,true,true,true,true,true,false,false,false,false,false,false,false,false,false,false,false,false,false,false] rfl rfl (any_of HT_.out (by kernel_rfl)) (fun _ _ _ h=>h) (Or.inr ⟨by rfl,rfl⟩) ?_ ?_
    rotate_left
    ·simp only [Act.put,List.setIfInBounds_toArray,List.set_cons_zero,List.set_cons_succ,i64_w,i32_w]
     rfl
    refine pure_ (i:=30) (N:=some 120) (v:=undef) (a':=?_) #[true,true,true,true,true,true,true,true,true,true,true,true,true,true,true,true,true,true,true,true,true,true,true,true,true,true,true,true,true,true,true,false,false,false,false,false,false,false,false,false,false,false,false,false] rfl rfl (any_of HT_.out (by kernel_rfl)) (fun _ _ _ h=>h) (Or.inr ⟨by rfl,rfl⟩) ?_ ?_
    rotate_left
    ·simp only [Act.put,List.setIfInBounds_toArray,List.set_cons_zero,List.set_cons_succ,i64_w,i32_w]
     rfl
    refine take_ (i:=31) (N:=some 121) (v:=undef) (a':=?_) #[true,true,true,true,true,true,true,true,true,true,true,true,true,true,true,true,true,true,true,true,true,true,true,true,true,true,true,true,true,true,true,true,false,false,false,false,false,false,false,false,false,false,false,false] rfl rfl (take_ofW HT_.out HW_.out (by kernel_rfl)) (fun _ _ _ h=>h) (Or.inr ⟨by rfl,rfl⟩) hHeld ?_ ?_
    rotate_left
    ·simp only [Act.put,List.setIfInBounds_toArray,List.set_cons_zero,List.set_cons_succ,i64_w,i32_w]
     rfl
    refine one_ (i:=32) (N:=some 122) #[true,true,true,true,true,true,true,true,true,true,true,true,true,true,true,true,true,true,true,true,true,true,true,true,true,true,true,true,true,true,true,true,true,false,false,false,false,false,false,false,false,false,false,false] rfl rfl (one_of HT_.out (by kernel_rfl)) (by decide) (fun K hK=>?_)
    refine ite_false_ (by rfl) ?_
    refine hK.out _ _ ⟨(pC HB.out Q0.out),(pC HB.out Q1.out),(pC HB.out Q2.out),(pC HB.out Q3.out),(pC HB.out Q4.out),(pC HB.out Q5.out)⟩ (fun hHeld=>?_)
    clear hK K
    refine norm_ (a':=?_) ?_ ?_
    rotate_left
    ·show Act.put _ (some 122) _ = _
     simp only [Act.put,List.setIfInBounds_toArray,List.set_cons_zero,List.set_cons_succ,i64_w,i32_w]
     rfl
    refine pure_ (i:=33) (N:=some 123) (v:=?_) (a':=?_) #[true,true,true,true,true,true,true,true,true,true,true,true,true,true,true,true,true,true,true,true,true,true,true,true,true,true,true,true,true,true,true,true,true,true,false,false,false,false,false,false,false,false,false,false] rfl rfl (any_of HT_.out (by kernel_rfl)) (fun _ _ _ h=>h) (Or.inl ⟨by rfl,?_⟩) ?_ ?_
    rotate_left
    ·intro w'
     go_simp
     with_reducible rfl
    rotate_left
    ·simp only [Act.put,List.setIfInBounds_toArray,List.set_cons_zero,List.set_cons_succ,i64_w,i32_w]
     rfl
    refine pure_ (i:=34) (N:=some 124) (v:=?_) (a':=?_) #[true,true,true,true,true,true,true,true,true,true,true,true,true,true,true,true,true,true,true,true,true,true,true,true,true,true,true,true,true,true,true,true,true,true,true,false,false,false,false,false,false,false,false,false] rfl rfl (any_of HT_.out (by kernel_rfl)) (fun _ _ _ h=>h) (Or.inl ⟨by rfl,?_⟩) ?_ ?_
    rotate_left
    ·intro w'
     go_simp
     with_reducible rfl
    rotate_left
    ·simp only [Act.put,List.setIfInBounds_toArray,List.set_cons_zero,List.set_cons_succ,i64_w,i32_w]
     rfl
    refine pure_ (i:=35) (N:=some 125) (v:=?_) (a':=?_) #[true,true,true,true,true,true,true,true,true,true,true,true,true,true,true,true,true,true,true,true,true,true,true,true,true,true,true,true,true,true,true,true,true,true,true,true,false,false,false,false,false,false,false,false] rfl rfl (any_of HT_.out (by kernel_rfl)) (fun _ _ _ h=>h) (Or.inl ⟨by rfl,?_⟩) ?_ ?_
    rotate_left
    ·intro w'
     go_simp
     with_reducible rfl
    rotate_left
    ·simp only [Act.put,List.setIfInBounds_toArray,List.set_cons_zero,List.set_cons_succ,i64_w,i32_w]
     rfl
    refine pure_ (i:=36) (N:=some 126) (v:=?_) (a':=?_) #[true,true,true,true,true,true,true,true,true,true,true,true,true,true,true,true,true,true,true,true,true,true,true,true,true,true,true,true,true,true,true,true,true,true,true,true,true,false,false,false,false,false,false,false] rfl rfl (any_of HT_.out (by kernel_rfl)) (fun _ _ _ h=>h) (Or.inl ⟨by rfl,?_⟩) ?_ ?_
    rotate_left
    ·intro w'
     go_simp
     with_reducible rfl
    rotate_left
    ·simp only [Act.put,List.setIfInBounds_toArray,List.set_cons_zero,List.set_cons_succ,i64_w,i32_w]
     rfl
    refine pure_ (i:=39) (N:=some 129) (v:=?_) (a':=?_) #[true,true,true,true,true,true,true,true,true,true,true,true,true,true,true,true,true,true,true,true,true,true,true,true,true,true,true,true,true,true,true,true,true,true,true,true,true,false,false,true,false,false,false,false] rfl rfl (any_of HT_.out (by kernel_rfl)) (fun _ _ _ h=>h) (Or.inl ⟨by rfl,?_⟩) ?_ ?_
    rotate_left
    ·intro w'
     go_simp
     with_reducible rfl
    rotate_left
    ·simp only [Act.put,List.setIfInBounds_toArray,List.set_cons_zero,List.set_cons_succ,i64_w,i32_w]
     rfl
    refine one_ (i:=37) (N:=some 127) #[true,true,true,true,true,true,true,true,true,true,true,true,true,true,true,true,true,true,true,true,true,true,true,true,true,true,true,true,true,true,true,true,true,true,true,true,true,true,false,true,false,false,false,false] rfl rfl (one_of HT_.out (by kernel_rfl)) (by decide) (fun K hK=>?_)
    refine goes_ Tryz.func36 (by kernel_rfl) rfl #[.pointer (some ⟨gs,0,none⟩)] (by rfl) rfl rfl (by (try simp only [List.map_toArray,List.map_cons,List.map_nil]);first | done | rfl | (simp only [List.length_drop,List.length_take];rfl)) ?_
    with_reducible refine (write_same key k _ (some ⟨gs,0,none⟩) out (HSN.out.below HB.out) HOL5.out HWD.out).mono ?_
    rintro er w37 ⟨A7,c7,rfl,hl7_,hC7_,hb_⟩
    rw [HOB.out] at hC7_ hl7_
    rw [HOB.out]
    have HC7:=As.mk hC7_
    clear hC7_ hl7_
    have n0_:=As.mk (bS HB.out hb_)
    clear HB hb_
    have HB:=n0_
    clear n0_
    refine ⟨_,rfl,?_⟩
    refine hK.out _ _ ⟨(pC HB.out Q0.out),(pC HB.out Q1.out),(pC HB.out Q2.out),(pC HB.out Q3.out),(pC HB.out Q4.out),(pC HB.out Q5.out)⟩ (fun hHeld=>?_)
    clear hK K
    refine norm_ (a':=?_) ?_ ?_
    rotate_left
    ·show Act.put _ (some 127) _ = _
     simp only [Act.put,List.setIfInBounds_toArray,List.set_cons_zero,List.set_cons_succ,i64_w,i32_w]
     rfl
    refine two_ (i:=38) (j:=40) (Ni:=some 128) (Nj:=some 130) #[true,true,true,true,true,true,true,true,true,true,true,true,true,true,true,true,true,true,true,true,true,true,true,true,true,true,true,true,true,true,true,true,true,true,true,true,true,true,true,true,false,false,false,false] #[true,true,true,true,true,true,true,true,true,true,true,true,true,true,true,true,true,true,true,true,true,true,true,true,true,true,true,true,true,true,true,true,true,true,true,true,true,true,false,true,true,false,false,false] rfl rfl rfl rfl (two_of HT_.out (by kernel_rfl)) (by decide) (by decide) (fun K hK=>?_) (fun K hK=>?_)
    ·have hcv:=Kd.C_string (P:=Tryz.prog) (c:=c7) Tryz.underlying54 Tryz.underlying5 Tryz.underlying9 HC7.out
     refine value_ (w1:=?_) (v:=?_) (by rfl) rfl ?_ ?_
     rotate_left 2
     ·go_simp
      constructor
      ·rfl
      ·rfl
     refine hK.out _ _ ⟨(pC HB.out Q0.out),(pC HB.out Q1.out),(pC HB.out Q2.out),(pC HB.out Q3.out),(pC HB.out Q4.out),(pC HB.out Q5.out)⟩ (fun hHeld=>?_)
     clear hK K
     refine norm_ (a':=?_) ?_ ?_
     rotate_left
     ·show Act.put _ (some 128) _ = _
      simp only [Act.put,List.setIfInBounds_toArray,List.set_cons_zero,List.set_cons_succ,i64_w,i32_w]
      rfl
     clear hcv
     refine one_ (i:=40) (N:=some 130) #[true,true,true,true,true,true,true,true,true,true,true,true,true,true,true,true,true,true,true,true,true,true,true,true,true,true,true,true,true,true,true,true,true,true,true,true,true,true,true,true,true,false,false,false] rfl rfl (one_of HT_.out (by kernel_rfl)) (by decide) (fun K hK=>?_)
     refine goes_ Tryz.func37 (by kernel_rfl) rfl #[.slice Aw out.length cw] (by rfl) rfl rfl (by (try simp only [List.map_toArray,List.map_cons,List.map_nil]);first | done | rfl | (simp only [List.length_drop,List.length_take];rfl)) ?_
     with_reducible refine (r08_Write.calls k2 Aw cw out sX _ (VC (Kd.V_below HV.out HB.out)).1 HCW.out HRW.out).mono ?_
     rintro er w40 ⟨rfl,hb_⟩
     have n7_:=As.mk (Kd.C_below HC7.out hb_)
     clear HC7
     have HC7:=n7_
     clear n7_
     have n0_:=As.mk (bS HB.out hb_)
     clear HB hb_
     have HB:=n0_
     clear n0_
     refine ⟨_,rfl,?_⟩
     refine hK.out _ _ ⟨(pC HB.out Q0.out),(pC HB.out Q1.out),(pC HB.out Q2.out),(pC HB.out Q3.out),(pC HB.out Q4.out),(pC HB.out Q5.out)⟩ (fun hHeld=>?_)
     clear hK K
     refine norm_ (a':=?_) ?_ ?_
     rotate_left
     ·show Act.put _ (some 130) _ = _
      simp only [Act.put,List.setIfInBounds_toArray,List.set_cons_zero,List.set_cons_succ,i64_w,i32_w]
      rfl
     refine pure_ (i:=41) (N:=some 131) (v:=?_) (a':=?_) #[true,true,true,true,true,true,true,true,true,true,true,true,true,true,true,true,true,true,true,true,true,true,true,true,true,true,true,true,true,true,true,true,true,true,true,true,true,true,true,true,true,true,false,false] rfl rfl (any_of HT_.out (by kernel_rfl)) (fun _ _ _ h=>h) (Or.inl ⟨by rfl,?_⟩) ?_ ?_
     rotate_left
     ·intro w'
      go_simp
      with_reducible rfl
     rotate_left
     ·simp only [Act.put,List.setIfInBounds_toArray,List.set_cons_zero,List.set_cons_succ,i64_w,i32_w]
      rfl
     refine pure_ (i:=42) (N:=some 132) (v:=?_) (a':=?_) #[true,true,true,true,true,true,true,true,true,true,true,true,true,true,true,true,true,true,true,true,true,true,true,true,true,true,true,true,true,true,true,true,true,true,true,true,true,true,true,true,true,true,true,false] rfl rfl (any_of HT_.out (by kernel_rfl)) (fun _ _ _ h=>h) (Or.inl ⟨by rfl,?_⟩) ?_ ?_
     rotate_left
     ·intro w'
      go_simp
      with_reducible rfl
     rotate_left
     ·simp only [Act.put,List.setIfInBounds_toArray,List.set_cons_zero,List.set_cons_succ,i64_w,i32_w]
      rfl
     refine pure_ (i:=43) (N:=some 6) (v:=?_) (a':=?_) #[true,true,true,true,true,true,true,true,true,true,true,true,true,true,true,true,true,true,true,true,true,true,true,true,true,true,true,true,true,true,true,true,true,true,true,true,true,true,true,true,true,true,true,true] rfl rfl (any_of HT_.out (by kernel_rfl)) (fun _ _ _ h=>h) (Or.inl ⟨by rfl,?_⟩) ?_ ?_
     rotate_left
     ·intro w'
      go_simp
      with_reducible rfl
     rotate_left
     ·simp only [Act.put,List.setIfInBounds_toArray,List.set_cons_zero,List.set_cons_succ,i64_w,i32_w]
      rfl
     refine done_ (done_of HT_.out (by kernel_rfl)) ?_
     go_wp2_with (fail)
     go_ret
     exact ⟨rfl,bS HBW.out (bS HB19.out HB.out)⟩
    ·refine goes_ Tryz.func37 (by kernel_rfl) rfl #[.slice Aw out.length cw] (by rfl) rfl rfl (by (try simp only [List.map_toArray,List.map_cons,List.map_nil]);first | done | rfl | (simp only [List.length_drop,List.length_take];rfl)) ?_
     with_reducible refine (r08_Write.calls k2 Aw cw out sX _ (VC (Kd.V_below HV.out HB.out)).1 HCW.out HRW.out).mono ?_
     rintro er w40 ⟨rfl,hb_⟩
     have n7_:=As.mk (Kd.C_below HC7.out hb_)
     clear HC7
     have HC7:=n7_
     clear n7_
     have n0_:=As.mk (bS HB.out hb_)
     clear HB hb_
     have HB:=n0_
     clear n0_
     refine ⟨_,rfl,?_⟩
     refine hK.out _ _ ⟨(pC HB.out Q0.out),(pC HB.out Q1.out),(pC HB.out Q2.out),(pC HB.out Q3.out),(pC HB.out Q4.out),(pC HB.out Q5.out)⟩ (fun hHeld=>?_)
     clear hK K
     refine norm_ (a':=?_) ?_ ?_
     rotate_left
     ·show Act.put _ (some 130) _ = _
      simp only [Act.put,List.setIfInBounds_toArray,List.set_cons_zero,List.set_cons_succ,i64_w,i32_w]
      rfl
     have hcv:=Kd.C_string (P:=Tryz.prog) (c:=c7) Tryz.underlying54 Tryz.underlying5 Tryz.underlying9 HC7.out
     refine one_ (i:=38) (N:=some 128) #[true,true,true,true,true,true,true,true,true,true,true,true,true,true,true,true,true,true,true,true,true,true,true,true,true,true,true,true,true,true,true,true,true,true,true,true,true,true,true,true,true,false,false,false] rfl rfl (one_of HT_.out (by kernel_rfl)) (by decide) (fun K hK=>?_)
     refine value_ (w1:=?_) (v:=?_) (by rfl) rfl ?_ ?_
     rotate_left 2
     ·go_simp
      constructor
      ·rfl
      ·rfl
     refine hK.out _ _ ⟨(pC HB.out Q0.out),(pC HB.out Q1.out),(pC HB.out Q2.out),(pC HB.out Q3.out),(pC HB.out Q4.out),(pC HB.out Q5.out)⟩ (fun hHeld=>?_)
     clear hK K
     refine norm_ (a':=?_) ?_ ?_
     rotate_left
     ·show Act.put _ (some 128) _ = _
      simp only [Act.put,List.setIfInBounds_toArray,List.set_cons_zero,List.set_cons_succ,i64_w,i32_w]
      rfl
     clear hcv
     refine pure_ (i:=41) (N:=some 131) (v:=?_) (a':=?_) #[true,true,true,true,true,true,true,true,true,true,true,true,true,true,true,true,true,true,true,true,true,true,true,true,true,true,true,true,true,true,true,true,true,true,true,true,true,true,true,true,true,true,false,false] rfl rfl (any_of HT_.out (by kernel_rfl)) (fun _ _ _ h=>h) (Or.inl ⟨by rfl,?_⟩) ?_ ?_
     rotate_left
     ·intro w'
      go_simp
      with_reducible rfl
     rotate_left
     ·simp only [Act.put,List.setIfInBounds_toArray,List.set_cons_zero,List.set_cons_succ,i64_w,i32_w]
      rfl
     refine pure_ (i:=42) (N:=some 132) (v:=?_) (a':=?_) #[true,true,true,true,true,true,true,true,true,true,true,true,true,true,true,true,true,true,true,true,true,true,true,true,true,true,true,true,true,true,true,true,true,true,true,true,true,true,true,true,true,true,true,false] rfl rfl (any_of HT_.out (by kernel_rfl)) (fun _ _ _ h=>h) (Or.inl ⟨by rfl,?_⟩) ?_ ?_
     rotate_left
     ·intro w'
      go_simp
      with_reducible rfl
     rotate_left
     ·simp only [Act.put,List.setIfInBounds_toArray,List.set_cons_zero,List.set_cons_succ,i64_w,i32_w]
      rfl
     refine pure_ (i:=43) (N:=some 6) (v:=?_) (a':=?_) #[true,true,true,true,true,true,true,true,true,true,true,true,true,true,true,true,true,true,true,true,true,true,true,true,true,true,true,true,true,true,true,true,true,true,true,true,true,true,true,true,true,true,true,true] rfl rfl (any_of HT_.out (by kernel_rfl)) (fun _ _ _ h=>h) (Or.inl ⟨by rfl,?_⟩) ?_ ?_
     rotate_left
     ·intro w'
      go_simp
      with_reducible rfl
     rotate_left
     ·simp only [Act.put,List.setIfInBounds_toArray,List.set_cons_zero,List.set_cons_succ,i64_w,i32_w]
      rfl
     refine done_ (done_of HT_.out (by kernel_rfl)) ?_
     go_wp2_with (fail)
     go_ret
     exact ⟨rfl,bS HBW.out (bS HB19.out HB.out)⟩
   case neg =>
    have zk : (ks.toList == ([] : List UInt8)) = false:=nonempty_ (Nat.pos_of_ne_zero fun h_=>hk0 (empty_ h_))
    clear hk0
    cases hh : hasL key ks out with
    | false=>as_aux_lemma =>
     have HHAS:=As.mk (show Maps.has (mapK key out) (KL ks) = false by rw [has_mapK];exact hh)
     have hr0_ : ¬ (0 ≤ r):=of_decide_eq_false (HFR.out.trans hh)
     have g1_ : (0 ≤ r) = False:=eq_false hr0_
     have g2_ : decide (0 ≤ r) = false:=decide_eq_false hr0_
     clear hh HFJ HFR hr0_
     go_upto_region 16 with (first | (go_at_call 17;(with_reducible refine (new_gen key k Ao co (turnedD l turn) _ (mapK key out) 0 ?s1 HLO.out HLT4.out HKT.out HNG2.out).mono ?_);(case s1=>exact Kd.C_below HCO.out (by repeat (first | (with_reducible first | exact HBO.out | apply bA | apply bN | apply bD) | exact HBO.out)));rintro e w5 ⟨pt,rfl,hg_,_,hb_⟩;obtain ⟨gt,bt,he_,hct_,hmt_⟩:=hg_ rfl;(injection he_ with he_);subst he_;have HTN:=As.mk (show SnR w5 (.pointer (some ⟨gt,0,none⟩)) (mapK key out) from ⟨gt,bt,rfl,hct_,hmt_⟩);have n0_:=As.mk (bS (by repeat (first | (with_reducible first | exact HB.out | apply bA | apply bN | apply bD) | exact HB.out)) hb_);clear HB hb_;have HB:=n0_;clear n0_;clear hct_ hmt_ HBO) | (go_at_call 32;(with_reducible refine (get_no _ (some ⟨gs,0,none⟩) (mapK key out) ks ?s1 HKM.out HHAS.out).mono ?_);(case s1=>exact HSN.out.below (by repeat (first | (with_reducible first | exact HB.out | apply bA | apply bN | apply bD) | exact HB.out)));rintro e wg ⟨A3,c3,rfl,hC3_,hb_⟩;have HC3:=As.mk hC3_;have mHTN_:=As.mk (HTN.out.below hb_);clear HTN;have HTN:=mHTN_;clear mHTN_;have n0_:=As.mk (bS (by repeat (first | (with_reducible first | exact HB.out | apply bA | apply bN | apply bD) | exact HB.out)) hb_);clear HB hb_;have HB:=n0_;clear n0_;clear hC3_))
     have bk_:=blk_new wg (Obj.cells #[.int .i64 0,.string ⟨#[]⟩,.string ⟨#[]⟩,.slice A3 0 c3,.string ⟨#[]⟩,.string ⟨#[]⟩] 34)
     have hb_:=bA (Below.refl wg.heap.size wg) (Obj.cells #[.int .i64 0,.string ⟨#[]⟩,.string ⟨#[]⟩,.slice A3 0 c3,.string ⟨#[]⟩,.string ⟨#[]⟩] 34)
     generalize wg.alloc (Obj.cells #[.int .i64 0,.string ⟨#[]⟩,.string ⟨#[]⟩,.slice A3 0 c3,.string ⟨#[]⟩,.string ⟨#[]⟩] 34) = W15 at bk_ hb_ ⊢
     obtain ⟨g15,hg15⟩ : ∃ g15,g15 = wg.heap.size:=⟨_,rfl⟩
     rw [← hg15] at bk_ ⊢
     clear hg15
     have BK:=As.mk bk_
     have mHTN_:=As.mk (HTN.out.below hb_);clear HTN;have HTN:=mHTN_;clear mHTN_
     have mHC3_:=As.mk (Kd.C_below HC3.out hb_);clear HC3;have HC3:=mHC3_;clear mHC3_
     have n0_:=As.mk (bS HB.out hb_)
     clear HB hb_ bk_
     have HB:=n0_
     clear n0_
     go_upto_region 19 with (first | (go_at_call 33;(with_reducible refine (r08_Find.calls k1 Aw cw out ks r _ ?s1 HCW.out HFD.out).mono ?_);(case s1=>exact (VC (Kd.V_below HV.out (by repeat (first | (with_reducible first | exact HB.out | apply bA | apply bN | apply bD) | exact HB.out)))).1);rintro e wf ⟨rfl,hb_⟩;have mHTN_:=As.mk (HTN.out.below hb_);clear HTN;have HTN:=mHTN_;clear mHTN_;have mHC3_:=As.mk (Kd.C_below HC3.out hb_);clear HC3;have HC3:=mHC3_;clear mHC3_;have mBK_:=As.mk (blk_below BK.out hb_);clear BK;have BK:=mBK_;clear mBK_;have n0_:=As.mk (bS (by repeat (first | (with_reducible first | exact HB.out | apply bA | apply bN | apply bD) | exact HB.out)) hb_);clear HB hb_;have HB:=n0_;clear n0_))
     have Q0:=As.mk (show wf.cell? ⟨g15,0,none⟩ = some (.int .i64 0) from (bC BK.out 0).trans rfl)
     have Q1:=As.mk (show wf.cell? ⟨g15,1,none⟩ = some (.string ⟨#[]⟩) from (bC BK.out 1).trans rfl)
     have Q2:=As.mk (show wf.cell? ⟨g15,2,none⟩ = some (.string ⟨#[]⟩) from (bC BK.out 2).trans rfl)
     have Q3:=As.mk (show wf.cell? ⟨g15,3,none⟩ = some (.slice A3 0 c3) from (bC BK.out 3).trans rfl)
     have Q4:=As.mk (show wf.cell? ⟨g15,4,none⟩ = some (.string ⟨#[]⟩) from (bC BK.out 4).trans rfl)
     have Q5:=As.mk (show wf.cell? ⟨g15,5,none⟩ = some (.string ⟨#[]⟩) from (bC BK.out 5).trans rfl)
     refine start_ (n:=44) (S:=fun w'=>w'.cell? ⟨g15,0,none⟩ = some (.int .i64 0) ∧ w'.cell? ⟨g15,1,none⟩ = some (.string ⟨#[]⟩) ∧ w'.cell? ⟨g15,2,none⟩ = some (.string ⟨#[]⟩) ∧ w'.cell? ⟨g15,3,none⟩ = some (.slice A3 0 c3) ∧ w'.cell? ⟨g15,4,none⟩ = some (.string ⟨#[]⟩) ∧ w'.cell? ⟨g15,5,none⟩ = some (.string ⟨#[]⟩)) (ds:=[]) #[false,false,false,false,false,false,false,false,false,false,false,false,false,false,false,false,false,false,false,false,false,false,false,false,false,false,false,false,false,false,false,false,false,false,false,false,false,false,false,false,false,false,false,false] (by kernel_rfl) rfl rfl ⟨(pC (bD (Below.refl _ wf)) Q0.out),(pC (bD (Below.refl _ wf)) Q1.out),(pC (bD (Below.refl _ wf)) Q2.out),(pC (bD (Below.refl _ wf)) Q3.out),(pC (bD (Below.refl _ wf)) Q4.out),(pC (bD (Below.refl _ wf)) Q5.out)⟩ (fun hHeld=>?_);refine with_tabW snapnews.tab19 snapnews.bits19 (fun HT_ HW_=>?_)
     have yHSN:=As.mk (HSN.out.below (bS HB.out (bD (Below.refl _ wf))))
     have yHTN:=As.mk (HTN.out.below (bD (Below.refl _ wf)))
     have yHV:=As.mk (Kd.V_below HV.out (bS HB.out (bD (Below.refl _ wf))))
     have yHC3:=As.mk (Kd.C_below HC3.out (bD (Below.refl _ wf)))
     have yQ0:=As.mk ((pC (bD (Below.refl _ wf)) Q0.out))
     have yQ1:=As.mk ((pC (bD (Below.refl _ wf)) Q1.out))
     have yQ2:=As.mk ((pC (bD (Below.refl _ wf)) Q2.out))
     have yQ3:=As.mk ((pC (bD (Below.refl _ wf)) Q3.out))
     have yQ4:=As.mk ((pC (bD (Below.refl _ wf)) Q4.out))
     have yQ5:=As.mk ((pC (bD (Below.refl _ wf)) Q5.out))
     have yB:=As.mk (bS HB.out (bD (Below.refl _ wf)))
     clear HB BK HSN HTN HV HC3 Q0 Q1 Q2 Q3 Q4 Q5
     generalize wf.drew = W19 at yHSN yHTN yHV yHC3 yQ0 yQ1 yQ2 yQ3 yQ4 yQ5 yB hHeld ⊢
     have HSN:=yHSN
     have HTN:=yHTN
     have HV:=yHV
     have HC3:=yHC3
     have Q0:=yQ0
     have Q1:=yQ1
     have Q2:=yQ2
     have Q3:=yQ3
     have Q4:=yQ4
     have Q5:=yQ5
     have HB19:=yB
     have HB:=As.mk (Below.refl W19.heap.size W19)
     clear yB yHSN yHTN yHV yHC3 yQ0 yQ1 yQ2 yQ3 yQ4 yQ5
     refine pure_ (i:=0) (N:=some 90) (v:=?_) (a':=?_) #[true,false,false,false,false,false,false,false,false,false,false,false,false,false,false,false,false,false,false,false,false,false,false,false,false,false,false,false,false,false,false,false,false,false,false,false,false,false,false,false,false,false,false,false] rfl rfl (any_of HT_.out (by kernel_rfl)) (fun _ _ _ h=>h) (Or.inl ⟨by rfl,?_⟩) ?_ ?_
     rotate_left
     ·intro w'
      go_simp
      with_reducible rfl
     rotate_left
     ·simp only [Act.put,List.setIfInBounds_toArray,List.set_cons_zero,List.set_cons_succ,i64_w,i32_w]
      rfl
     refine pure_ (i:=1) (N:=some 91) (v:=?_) (a':=?_) #[true,true,false,false,false,false,false,false,false,false,false,false,false,false,false,false,false,false,false,false,false,false,false,false,false,false,false,false,false,false,false,false,false,false,false,false,false,false,false,false,false,false,false,false] rfl rfl (any_of HT_.out (by kernel_rfl)) (fun _ _ _ h=>h) (Or.inl ⟨by rfl,?_⟩) ?_ ?_
     rotate_left
     ·intro w'
      go_simp
      with_reducible rfl
     rotate_left
     ·simp only [Act.put,List.setIfInBounds_toArray,List.set_cons_zero,List.set_cons_succ,i64_w,i32_w]
      rfl
     refine one_ (i:=2) (N:=some 92) #[true,true,true,false,false,false,false,false,false,false,false,false,false,false,false,false,false,false,false,false,false,false,false,false,false,false,false,false,false,false,false,false,false,false,false,false,false,false,false,false,false,false,false,false] rfl rfl (one_of HT_.out (by kernel_rfl)) (by decide) (fun K hK=>?_)
     refine goes_ Tryz.func21 (by kernel_rfl) rfl #[.pointer (some ⟨gs,0,none⟩),.slice Aw out.length cw] (by rfl) rfl rfl (by (try simp only [List.map_toArray,List.map_cons,List.map_nil]);first | done | rfl | (simp only [List.length_drop,List.length_take];rfl)) ?_
     with_reducible refine (is_same key sm k _ (some ⟨gs,0,none⟩) out Aw cw (Sn_of (HSN.out.below HB.out)) (Kd.V_below HV.out HB.out) HOL.out HOV.out HRS.out HOE.out).mono ?_
     rintro er wi ⟨rfl,hb_⟩
     have n0_:=As.mk (bS HB.out hb_)
     clear HB hb_
     have HB:=n0_
     clear n0_
     refine ⟨_,rfl,?_⟩
     refine hK.out _ _ ⟨(pC HB.out Q0.out),(pC HB.out Q1.out),(pC HB.out Q2.out),(pC HB.out Q3.out),(pC HB.out Q4.out),(pC HB.out Q5.out)⟩ (fun hHeld=>?_)
     clear hK K
     refine norm_ (a':=?_) ?_ ?_
     rotate_left
     ·show Act.put _ (some 92) _ = _
      simp only [Act.put,List.setIfInBounds_toArray,List.set_cons_zero,List.set_cons_succ,i64_w,i32_w]
      rfl
     refine pure_ (i:=3) (N:=some 93) (v:=?_) (a':=?_) #[true,true,true,true,false,false,false,false,false,false,false,false,false,false,false,false,false,false,false,false,false,false,false,false,false,false,false,false,false,false,false,false,false,false,false,false,false,false,false,false,false,false,false,false] rfl rfl (any_of HT_.out (by kernel_rfl)) (fun _ _ _ h=>h) (Or.inl ⟨by rfl,?_⟩) ?_ ?_
     rotate_left
     ·intro w'
      go_simp
      with_reducible rfl
     rotate_left
     ·simp only [Act.put,List.setIfInBounds_toArray,List.set_cons_zero,List.set_cons_succ,i64_w,i32_w]
      rfl
     refine pure_ (i:=4) (N:=some 94) (v:=?_) (a':=?_) #[true,true,true,true,true,false,false,false,false,false,false,false,false,false,false,false,false,false,false,false,false,false,false,false,false,false,false,false,false,false,false,false,false,false,false,false,false,false,false,false,false,false,false,false] rfl rfl (any_of HT_.out (by kernel_rfl)) (fun _ _ _ h=>h) (Or.inl ⟨by rfl,?_⟩) ?_ ?_
     rotate_left
     ·intro w'
      go_simp
      with_reducible rfl
     rotate_left
     ·simp only [Act.put,List.setIfInBounds_toArray,List.set_cons_zero,List.set_cons_succ,i64_w,i32_w]
      rfl
     refine pure_ (i:=5) (N:=some 95) (v:=?_) (a':=?_) #[true,true,true,true,true,true,false,false,false,false,false,false,false,false,false,false,false,false,false,false,false,false,false,false,false,false,false,false,false,false,false,false,false,false,false,false,false,false,false,false,false,false,false,false] rfl rfl (any_of HT_.out (by kernel_rfl)) (fun _ _ _ h=>h) (Or.inl ⟨by rfl,?_⟩) ?_ ?_
     rotate_left
     ·intro w'
      go_simp
      with_reducible rfl
     rotate_left
     ·simp only [Act.put,List.setIfInBounds_toArray,List.set_cons_zero,List.set_cons_succ,i64_w,i32_w]
      rfl
     refine pure_ (i:=6) (N:=some 96) (v:=?_) (a':=?_) #[true,true,true,true,true,true,true,false,false,false,false,false,false,false,false,false,false,false,false,false,false,false,false,false,false,false,false,false,false,false,false,false,false,false,false,false,false,false,false,false,false,false,false,false] rfl rfl (any_of HT_.out (by kernel_rfl)) (fun _ _ _ h=>h) (Or.inl ⟨by rfl,?_⟩) ?_ ?_
     rotate_left
     ·intro w'
      go_simp
      with_reducible rfl
     rotate_left
     ·simp only [Act.put,List.setIfInBounds_toArray,List.set_cons_zero,List.set_cons_succ,i64_w,i32_w]
      rfl
     refine pure_ (i:=7) (N:=some 97) (v:=?_) (a':=?_) #[true,true,true,true,true,true,true,true,false,false,false,false,false,false,false,false,false,false,false,false,false,false,false,false,false,false,false,false,false,false,false,false,false,false,false,false,false,false,false,false,false,false,false,false] rfl rfl (any_of HT_.out (by kernel_rfl)) (fun _ _ _ h=>h) (Or.inl ⟨by rfl,?_⟩) ?_ ?_
     rotate_left
     ·intro w'
      go_simp
      with_reducible rfl
     rotate_left
     ·simp only [Act.put,List.setIfInBounds_toArray,List.set_cons_zero,List.set_cons_succ,i64_w,i32_w]
      rfl
     refine pure_ (i:=8) (N:=some 98) (v:=?_) (a':=?_) #[true,true,true,true,true,true,true,true,true,false,false,false,false,false,false,false,false,false,false,false,false,false,false,false,false,false,false,false,false,false,false,false,false,false,false,false,false,false,false,false,false,false,false,false] rfl rfl (any_of HT_.out (by kernel_rfl)) (fun _ _ _ h=>h) (Or.inl ⟨by rfl,?_⟩) ?_ ?_
     rotate_left
     ·intro w'
      go_simp
      with_reducible rfl
     rotate_left
     ·simp only [Act.put,List.setIfInBounds_toArray,List.set_cons_zero,List.set_cons_succ,i64_w,i32_w]
      rfl
     refine pure_ (i:=9) (N:=some 99) (v:=?_) (a':=?_) #[true,true,true,true,true,true,true,true,true,true,false,false,false,false,false,false,false,false,false,false,false,false,false,false,false,false,false,false,false,false,false,false,false,false,false,false,false,false,false,false,false,false,false,false] rfl rfl (any_of HT_.out (by kernel_rfl)) (fun _ _ _ h=>h) (Or.inl ⟨by rfl,?_⟩) ?_ ?_
     rotate_left
     ·intro w'
      go_simp
      with_reducible rfl
     rotate_left
     ·simp only [Act.put,List.setIfInBounds_toArray,List.set_cons_zero,List.set_cons_succ,i64_w,i32_w]
      rfl
     refine one_ (i:=10) (N:=some 100) #[true,true,true,true,true,true,true,true,true,true,true,false,false,false,false,false,false,false,false,false,false,false,false,false,false,false,false,false,false,false,false,false,false,false,false,false,false,false,false,false,false,false,false,false] rfl rfl (one_of HT_.out (by kernel_rfl)) (by decide) (fun K hK=>?_)
     refine goes_ Tryz.func34 (by kernel_rfl) rfl #[.pointer (some ⟨gs,0,none⟩),.pointer (some ⟨gt,0,none⟩)] (by rfl) rfl rfl (by (try simp only [List.map_toArray,List.map_cons,List.map_nil]);first | done | rfl | (simp only [List.length_drop,List.length_take];rfl)) ?_
     with_reducible refine (same_self key sm k _ _ _ out (HSN.out.below HB.out) (HTN.out.below HB.out) HOL.out HDS.out HOE.out).mono ?_
     rintro er w10 ⟨rfl,hb_⟩
     have n0_:=As.mk (bS HB.out hb_)
     clear HB hb_
     have HB:=n0_
     clear n0_
     refine ⟨_,rfl,?_⟩
     refine hK.out _ _ ⟨(pC HB.out Q0.out),(pC HB.out Q1.out),(pC HB.out Q2.out),(pC HB.out Q3.out),(pC HB.out Q4.out),(pC HB.out Q5.out)⟩ (fun hHeld=>?_)
     clear hK K
     refine norm_ (a':=?_) ?_ ?_
     rotate_left
     ·show Act.put _ (some 100) _ = _
      simp only [Act.put,List.setIfInBounds_toArray,List.set_cons_zero,List.set_cons_succ,i64_w,i32_w]
      rfl
     refine pure_ (i:=11) (N:=some 101) (v:=?_) (a':=?_) #[true,true,true,true,true,true,true,true,true,true,true,true,false,false,false,false,false,false,false,false,false,false,false,false,false,false,false,false,false,false,false,false,false,false,false,false,false,false,false,false,false,false,false,false] rfl rfl (any_of HT_.out (by kernel_rfl)) (fun _ _ _ h=>h) (Or.inl ⟨by rfl,?_⟩) ?_ ?_
     rotate_left
     ·intro w'
      go_simp
      with_reducible rfl
     rotate_left
     ·simp only [Act.put,List.setIfInBounds_toArray,List.set_cons_zero,List.set_cons_succ,i64_w,i32_w]
      rfl
     refine pure_ (i:=12) (N:=some 102) (v:=?_) (a':=?_) #[true,true,true,true,true,true,true,true,true,true,true,true,true,false,false,false,false,false,false,false,false,false,false,false,false,false,false,false,false,false,false,false,false,false,false,false,false,false,false,false,false,false,false,false] rfl rfl (any_of HT_.out (by kernel_rfl)) (fun _ _ _ h=>h) (Or.inl ⟨by rfl,?_⟩) ?_ ?_
     rotate_left
     ·intro w'
      go_simp
      with_reducible rfl
     rotate_left
     ·simp only [Act.put,List.setIfInBounds_toArray,List.set_cons_zero,List.set_cons_succ,i64_w,i32_w]
      rfl
     refine pure_ (i:=13) (N:=some 103) (v:=?_) (a':=?_) #[true,true,true,true,true,true,true,true,true,true,true,true,true,true,false,false,false,false,false,false,false,false,false,false,false,false,false,false,false,false,false,false,false,false,false,false,false,false,false,false,false,false,false,false] rfl rfl (any_of HT_.out (by kernel_rfl)) (fun _ _ _ h=>h) (Or.inl ⟨by rfl,?_⟩) ?_ ?_
     rotate_left
     ·intro w'
      go_simp
      with_reducible rfl
     rotate_left
     ·simp only [Act.put,List.setIfInBounds_toArray,List.set_cons_zero,List.set_cons_succ,i64_w,i32_w]
      rfl
     refine pure_ (i:=14) (N:=some 104) (v:=?_) (a':=?_) #[true,true,true,true,true,true,true,true,true,true,true,true,true,true,true,false,false,false,false,false,false,false,false,false,false,false,false,false,false,false,false,false,false,false,false,false,false,false,false,false,false,false,false,false] rfl rfl (any_of HT_.out (by kernel_rfl)) (fun _ _ _ h=>h) (Or.inl ⟨by rfl,?_⟩) ?_ ?_
     rotate_left
     ·intro w'
      go_simp
      with_reducible rfl
     rotate_left
     ·simp only [Act.put,List.setIfInBounds_toArray,List.set_cons_zero,List.set_cons_succ,i64_w,i32_w]
      rfl
     refine one_ (i:=15) (N:=some 105) #[true,true,true,true,true,true,true,true,true,true,true,true,true,true,true,true,false,false,false,false,false,false,false,false,false,false,false,false,false,false,false,false,false,false,false,false,false,false,false,false,false,false,false,false] rfl rfl (one_of HT_.out (by kernel_rfl)) (by decide) (fun K hK=>?_)
     refine goes_ Tryz.func34 (by kernel_rfl) rfl #[.pointer (some ⟨gt,0,none⟩),.pointer (some ⟨gs,0,none⟩)] (by rfl) rfl rfl (by (try simp only [List.map_toArray,List.map_cons,List.map_nil]);first | done | rfl | (simp only [List.length_drop,List.length_take];rfl)) ?_
     with_reducible refine (same_self key sm k _ _ _ out (HTN.out.below HB.out) (HSN.out.below HB.out) HOL.out HDS.out HOE.out).mono ?_
     rintro er w15 ⟨rfl,hb_⟩
     have n0_:=As.mk (bS HB.out hb_)
     clear HB hb_
     have HB:=n0_
     clear n0_
     refine ⟨_,rfl,?_⟩
     refine hK.out _ _ ⟨(pC HB.out Q0.out),(pC HB.out Q1.out),(pC HB.out Q2.out),(pC HB.out Q3.out),(pC HB.out Q4.out),(pC HB.out Q5.out)⟩ (fun hHeld=>?_)
     clear hK K
     refine norm_ (a':=?_) ?_ ?_
     rotate_left
     ·show Act.put _ (some 105) _ = _
      simp only [Act.put,List.setIfInBounds_toArray,List.set_cons_zero,List.set_cons_succ,i64_w,i32_w]
      rfl
     refine pure_ (i:=16) (N:=some 106) (v:=?_) (a':=?_) #[true,true,true,true,true,true,true,true,true,true,true,true,true,true,true,true,true,false,false,false,false,false,false,false,false,false,false,false,false,false,false,false,false,false,false,false,false,false,false,false,false,false,false,false] rfl rfl (any_of HT_.out (by kernel_rfl)) (fun _ _ _ h=>h) (Or.inl ⟨by rfl,?_⟩) ?_ ?_
     rotate_left
     ·intro w'
      go_simp
      with_reducible rfl
     rotate_left
     ·simp only [Act.put,List.setIfInBounds_toArray,List.set_cons_zero,List.set_cons_succ,i64_w,i32_w]
      rfl
     refine pure_ (i:=17) (N:=some 107) (v:=?_) (a':=?_) #[true,true,true,true,true,true,true,true,true,true,true,true,true,true,true,true,true,true,false,false,false,false,false,false,false,false,false,false,false,false,false,false,false,false,false,false,false,false,false,false,false,false,false,false] rfl rfl (any_of HT_.out (by kernel_rfl)) (fun _ _ _ h=>h) (Or.inl ⟨by rfl,?_⟩) ?_ ?_
     rotate_left
     ·intro w'
      go_simp
      with_reducible rfl
     rotate_left
     ·simp only [Act.put,List.setIfInBounds_toArray,List.set_cons_zero,List.set_cons_succ,i64_w,i32_w]
      rfl
     refine pure_ (i:=18) (N:=some 108) (v:=?_) (a':=?_) #[true,true,true,true,true,true,true,true,true,true,true,true,true,true,true,true,true,true,true,false,false,false,false,false,false,false,false,false,false,false,false,false,false,false,false,false,false,false,false,false,false,false,false,false] rfl rfl (any_of HT_.out (by kernel_rfl)) (fun _ _ _ h=>h) (Or.inl ⟨by rfl,?_⟩) ?_ ?_
     rotate_left
     ·intro w'
      go_simp
      with_reducible rfl
     rotate_left
     ·simp only [Act.put,List.setIfInBounds_toArray,List.set_cons_zero,List.set_cons_succ,i64_w,i32_w]
      rfl
     refine pure_ (i:=19) (N:=some 109) (v:=?_) (a':=?_) #[true,true,true,true,true,true,true,true,true,true,true,true,true,true,true,true,true,true,true,true,false,false,false,false,false,false,false,false,false,false,false,false,false,false,false,false,false,false,false,false,false,false,false,false] rfl rfl (any_of HT_.out (by kernel_rfl)) (fun _ _ _ h=>h) (Or.inl ⟨by rfl,?_⟩) ?_ ?_
     rotate_left
     ·intro w'
      go_simp
      with_reducible rfl
     rotate_left
     ·simp only [Act.put,List.setIfInBounds_toArray,List.set_cons_zero,List.set_cons_succ,i64_w,i32_w]
      rfl
     refine pure_ (i:=20) (N:=some 110) (v:=?_) (a':=?_) #[true,true,true,true,true,true,true,true,true,true,true,true,true,true,true,true,true,true,true,true,true,false,false,false,false,false,false,false,false,false,false,false,false,false,false,false,false,false,false,false,false,false,false,false] rfl rfl (any_of HT_.out (by kernel_rfl)) (fun _ _ _ h=>h) (Or.inl ⟨by rfl,?_⟩) ?_ ?_
     rotate_left
     ·intro w'
      go_simp
      with_reducible rfl
     rotate_left
     ·simp only [Act.put,List.setIfInBounds_toArray,List.set_cons_zero,List.set_cons_succ,i64_w,i32_w]
      rfl
     refine pure_ (i:=21) (N:=some 111) (v:=?_) (a':=?_) #[true,true,true,true,true,true,true,true,true,true,true,true,true,true,true,true,true,true,true,true,true,true,false,false,false,false,false,false,false,false,false,false,false,false,false,false,false,false,false,false,false,false,false,false] rfl rfl (any_of HT_.out (by kernel_rfl)) (fun _ _ _ h=>h) (Or.inl ⟨by rfl,?_⟩) ?_ ?_
     rotate_left
     ·intro w'
      go_simp
      with_reducible rfl
     rotate_left
     ·simp only [Act.put,List.setIfInBounds_toArray,List.set_cons_zero,List.set_cons_succ,i64_w,i32_w]
      rfl
     refine pure_ (i:=22) (N:=some 112) (v:=?_) (a':=?_) #[true,true,true,true,true,true,true,true,true,true,true,true,true,true,true,true,true,true,true,true,true,true,true,false,false,false,false,false,false,false,false,false,false,false,false,false,false,false,false,false,false,false,false,false] rfl rfl (any_of HT_.out (by kernel_rfl)) (fun _ _ _ h=>h) (Or.inl ⟨by rfl,?_⟩) ?_ ?_
     rotate_left
     ·intro w'
      go_simp
      with_reducible rfl
     rotate_left
     ·simp only [Act.put,List.setIfInBounds_toArray,List.set_cons_zero,List.set_cons_succ,i64_w,i32_w]
      rfl
     refine pure_ (i:=23) (N:=some 113) (v:=?_) (a':=?_) #[true,true,true,true,true,true,true,true,true,true,true,true,true,true,true,true,true,true,true,true,true,true,true,true,false,false,false,false,false,false,false,false,false,false,false,false,false,false,false,false,false,false,false,false] rfl rfl (any_of HT_.out (by kernel_rfl)) (fun _ _ _ h=>h) (Or.inl ⟨by rfl,?_⟩) ?_ ?_
     rotate_left
     ·intro w'
      go_simp
      with_reducible rfl
     rotate_left
     ·simp only [Act.put,List.setIfInBounds_toArray,List.set_cons_zero,List.set_cons_succ,i64_w,i32_w]
      rfl
     refine pure_ (i:=24) (N:=some 114) (v:=?_) (a':=?_) #[true,true,true,true,true,true,true,true,true,true,true,true,true,true,true,true,true,true,true,true,true,true,true,true,true,false,false,false,false,false,false,false,false,false,false,false,false,false,false,false,false,false,false,false] rfl rfl (any_of HT_.out (by kernel_rfl)) (fun _ _ _ h=>h) (Or.inl ⟨by rfl,?_⟩) ?_ ?_
     rotate_left
     ·intro w'
      go_simp
      with_reducible rfl
     rotate_left
     ·simp only [Act.put,List.setIfInBounds_toArray,List.set_cons_zero,List.set_cons_succ,i64_w,i32_w]
      rfl
     refine pure_ (i:=25) (N:=some 115) (v:=?_) (a':=?_) #[true,true,true,true,true,true,true,true,true,true,true,true,true,true,true,true,true,true,true,true,true,true,true,true,true,true,false,false,false,false,false,false,false,false,false,false,false,false,false,false,false,false,false,false] rfl rfl (any_of HT_.out (by kernel_rfl)) (fun _ _ _ h=>h) (Or.inl ⟨by rfl,?_⟩) ?_ ?_
     rotate_left
     ·intro w'
      go_simp
      with_reducible rfl
     rotate_left
     ·simp only [Act.put,List.setIfInBounds_toArray,List.set_cons_zero,List.set_cons_succ,i64_w,i32_w]
      rfl
     refine pure_ (i:=26) (N:=some 116) (v:=?_) (a':=?_) #[true,true,true,true,true,true,true,true,true,true,true,true,true,true,true,true,true,true,true,true,true,true,true,true,true,true,true,false,false,false,false,false,false,false,false,false,false,false,false,false,false,false,false,false] rfl rfl (any_of HT_.out (by kernel_rfl)) (fun _ _ _ h=>h) (Or.inl ⟨by rfl,?_⟩) ?_ ?_
     rotate_left
     ·intro w'
      go_simp
      with_reducible rfl
     rotate_left
     ·simp only [Act.put,List.setIfInBounds_toArray,List.set_cons_zero,List.set_cons_succ,i64_w,i32_w]
      rfl
     refine take_ (i:=27) (N:=some 117) (v:=undef) (a':=?_) #[true,true,true,true,true,true,true,true,true,true,true,true,true,true,true,true,true,true,true,true,true,true,true,true,true,true,true,true,false,false,false,false,false,false,false,false,false,false,false,false,false,false,false,false] rfl rfl (take_ofW HT_.out HW_.out (by kernel_rfl)) (fun _ _ _ h=>h) (Or.inr ⟨by rfl,rfl⟩) hHeld ?_ ?_
     rotate_left
     ·simp only [Act.put,List.setIfInBounds_toArray,List.set_cons_zero,List.set_cons_succ,i64_w,i32_w]
      rfl
     refine pure_ (i:=28) (N:=some 118) (v:=undef) (a':=?_) #[true,true,true,true,true,true,true,true,true,true,true,true,true,true,true,true,true,true,true,true,true,true,true,true,true,true,true,true,true,false,false,false,false,false,false,false,false,false,false,false,false,false,false,false] rfl rfl (any_of HT_.out (by kernel_rfl)) (fun _ _ _ h=>h) (Or.inr ⟨by rfl,rfl⟩) ?_ ?_
     rotate_left
     ·simp only [Act.put,List.setIfInBounds_toArray,List.set_cons_zero,List.set_cons_succ,i64_w,i32_w]
      rfl
     refine pure_ (i:=29) (N:=some 119) (v:=undef) (a':=?_) #[true,true,true,true,true,true,true,true,true,true,true,true,true,true,true,true,true,true,true,true,true,true,true,true,true,true,true,true,true,true,false,false,false,false,false,false,false,false,false,false,false,false,false,false] rfl rfl (any_of HT_.out (by kernel_rfl)) (fun _ _ _ h=>h) (Or.inr ⟨by rfl,rfl⟩) ?_ ?_
     rotate_left
     ·simp only [Act.put,List.setIfInBounds_toArray,List.set_cons_zero,List.set_cons_succ,i64_w,i32_w]
      rfl
     refine pure_ (i:=30) (N:=some 120) (v:=undef) (a':=?_) #[true,true,true,true,true,true,true,true,true,true,true,true,true,true,true,true,true,true,true,true,true,true,true,true,true,true,true,true,true,true,true,false,false,false,false,false,false,false,false,false,false,false,false,false] rfl rfl (any_of HT_.out (by kernel_rfl)) (fun _ _ _ h=>h) (Or.inr ⟨by rfl,rfl⟩) ?_ ?_
     rotate_left
     ·simp only [Act.put,List.setIfInBounds_toArray,List.set_cons_zero,List.set_cons_succ,i64_w,i32_w]
      rfl
     refine take_ (i:=31) (N:=some 121) (v:=undef) (a':=?_) #[true,true,true,true,true,true,true,true,true,true,true,true,true,true,true,true,true,true,true,true,true,true,true,true,true,true,true,true,true,true,true,true,false,false,false,false,false,false,false,false,false,false,false,false] rfl rfl (take_ofW HT_.out HW_.out (by kernel_rfl)) (fun _ _ _ h=>h) (Or.inr ⟨by rfl,rfl⟩) hHeld ?_ ?_
     rotate_left
     ·simp only [Act.put,List.setIfInBounds_toArray,List.set_cons_zero,List.set_cons_succ,i64_w,i32_w]
      rfl
     refine one_ (i:=32) (N:=some 122) #[true,true,true,true,true,true,true,true,true,true,true,true,true,true,true,true,true,true,true,true,true,true,true,true,true,true,true,true,true,true,true,true,true,false,false,false,false,false,false,false,false,false,false,false] rfl rfl (one_of HT_.out (by kernel_rfl)) (by decide) (fun K hK=>?_)
     refine ite_false_ (by rfl) ?_
     refine hK.out _ _ ⟨(pC HB.out Q0.out),(pC HB.out Q1.out),(pC HB.out Q2.out),(pC HB.out Q3.out),(pC HB.out Q4.out),(pC HB.out Q5.out)⟩ (fun hHeld=>?_)
     clear hK K
     refine norm_ (a':=?_) ?_ ?_
     rotate_left
     ·show Act.put _ (some 122) _ = _
      simp only [Act.put,List.setIfInBounds_toArray,List.set_cons_zero,List.set_cons_succ,i64_w,i32_w]
      rfl
     refine pure_ (i:=33) (N:=some 123) (v:=?_) (a':=?_) #[true,true,true,true,true,true,true,true,true,true,true,true,true,true,true,true,true,true,true,true,true,true,true,true,true,true,true,true,true,true,true,true,true,true,false,false,false,false,false,false,false,false,false,false] rfl rfl (any_of HT_.out (by kernel_rfl)) (fun _ _ _ h=>h) (Or.inl ⟨by rfl,?_⟩) ?_ ?_
     rotate_left
     ·intro w'
      go_simp
      with_reducible rfl
     rotate_left
     ·simp only [Act.put,List.setIfInBounds_toArray,List.set_cons_zero,List.set_cons_succ,i64_w,i32_w]
      rfl
     refine pure_ (i:=34) (N:=some 124) (v:=?_) (a':=?_) #[true,true,true,true,true,true,true,true,true,true,true,true,true,true,true,true,true,true,true,true,true,true,true,true,true,true,true,true,true,true,true,true,true,true,true,false,false,false,false,false,false,false,false,false] rfl rfl (any_of HT_.out (by kernel_rfl)) (fun _ _ _ h=>h) (Or.inl ⟨by rfl,?_⟩) ?_ ?_
     rotate_left
     ·intro w'
      go_simp
      with_reducible rfl
     rotate_left
     ·simp only [Act.put,List.setIfInBounds_toArray,List.set_cons_zero,List.set_cons_succ,i64_w,i32_w]
      rfl
     refine pure_ (i:=35) (N:=some 125) (v:=?_) (a':=?_) #[true,true,true,true,true,true,true,true,true,true,true,true,true,true,true,true,true,true,true,true,true,true,true,true,true,true,true,true,true,true,true,true,true,true,true,true,false,false,false,false,false,false,false,false] rfl rfl (any_of HT_.out (by kernel_rfl)) (fun _ _ _ h=>h) (Or.inl ⟨by rfl,?_⟩) ?_ ?_
     rotate_left
     ·intro w'
      go_simp
      with_reducible rfl
     rotate_left
     ·simp only [Act.put,List.setIfInBounds_toArray,List.set_cons_zero,List.set_cons_succ,i64_w,i32_w]
      rfl
     refine pure_ (i:=36) (N:=some 126) (v:=?_) (a':=?_) #[true,true,true,true,true,true,true,true,true,true,true,true,true,true,true,true,true,true,true,true,true,true,true,true,true,true,true,true,true,true,true,true,true,true,true,true,true,false,false,false,false,false,false,false] rfl rfl (any_of HT_.out (by kernel_rfl)) (fun _ _ _ h=>h) (Or.inl ⟨by rfl,?_⟩) ?_ ?_
     rotate_left
     ·intro w'
      go_simp
      with_reducible rfl
     rotate_left
     ·simp only [Act.put,List.setIfInBounds_toArray,List.set_cons_zero,List.set_cons_succ,i64_w,i32_w]
      rfl
     refine pure_ (i:=39) (N:=some 129) (v:=?_) (a':=?_) #[true,true,true,true,true,true,true,true,true,true,true,true,true,true,true,true,true,true,true,true,true,true,true,true,true,true,true,true,true,true,true,true,true,true,true,true,true,false,false,true,false,false,false,false] rfl rfl (any_of HT_.out (by kernel_rfl)) (fun _ _ _ h=>h) (Or.inl ⟨by rfl,?_⟩) ?_ ?_
     rotate_left
     ·intro w'
      go_simp
      with_reducible rfl
     rotate_left
     ·simp only [Act.put,List.setIfInBounds_toArray,List.set_cons_zero,List.set_cons_succ,i64_w,i32_w]
      rfl
     refine one_ (i:=37) (N:=some 127) #[true,true,true,true,true,true,true,true,true,true,true,true,true,true,true,true,true,true,true,true,true,true,true,true,true,true,true,true,true,true,true,true,true,true,true,true,true,true,false,true,false,false,false,false] rfl rfl (one_of HT_.out (by kernel_rfl)) (by decide) (fun K hK=>?_)
     refine goes_ Tryz.func36 (by kernel_rfl) rfl #[.pointer (some ⟨gs,0,none⟩)] (by rfl) rfl rfl (by (try simp only [List.map_toArray,List.map_cons,List.map_nil]);first | done | rfl | (simp only [List.length_drop,List.length_take];rfl)) ?_
     with_reducible refine (write_same key k _ (some ⟨gs,0,none⟩) out (HSN.out.below HB.out) HOL5.out HWD.out).mono ?_
     rintro er w37 ⟨A7,c7,rfl,hl7_,hC7_,hb_⟩
     rw [HOB.out] at hC7_ hl7_
     rw [HOB.out]
     have HC7:=As.mk hC7_
     clear hC7_ hl7_
     have n0_:=As.mk (bS HB.out hb_)
     clear HB hb_
     have HB:=n0_
     clear n0_
     refine ⟨_,rfl,?_⟩
     refine hK.out _ _ ⟨(pC HB.out Q0.out),(pC HB.out Q1.out),(pC HB.out Q2.out),(pC HB.out Q3.out),(pC HB.out Q4.out),(pC HB.out Q5.out)⟩ (fun hHeld=>?_)
     clear hK K
     refine norm_ (a':=?_) ?_ ?_
     rotate_left
     ·show Act.put _ (some 127) _ = _
      simp only [Act.put,List.setIfInBounds_toArray,List.set_cons_zero,List.set_cons_succ,i64_w,i32_w]
      rfl
     refine two_ (i:=38) (j:=40) (Ni:=some 128) (Nj:=some 130) #[true,true,true,true,true,true,true,true,true,true,true,true,true,true,true,true,true,true,true,true,true,true,true,true,true,true,true,true,true,true,true,true,true,true,true,true,true,true,true,true,false,false,false,false] #[true,true,true,true,true,true,true,true,true,true,true,true,true,true,true,true,true,true,true,true,true,true,true,true,true,true,true,true,true,true,true,true,true,true,true,true,true,true,false,true,true,false,false,false] rfl rfl rfl rfl (two_of HT_.out (by kernel_rfl)) (by decide) (by decide) (fun K hK=>?_) (fun K hK=>?_)
     ·have hcv:=Kd.C_string (P:=Tryz.prog) (c:=c7) Tryz.underlying54 Tryz.underlying5 Tryz.underlying9 HC7.out
      refine value_ (w1:=?_) (v:=?_) (by rfl) rfl ?_ ?_
      rotate_left 2
      ·go_simp
       constructor
       ·rfl
       ·rfl
      refine hK.out _ _ ⟨(pC HB.out Q0.out),(pC HB.out Q1.out),(pC HB.out Q2.out),(pC HB.out Q3.out),(pC HB.out Q4.out),(pC HB.out Q5.out)⟩ (fun hHeld=>?_)
      clear hK K
      refine norm_ (a':=?_) ?_ ?_
      rotate_left
      ·show Act.put _ (some 128) _ = _
       simp only [Act.put,List.setIfInBounds_toArray,List.set_cons_zero,List.set_cons_succ,i64_w,i32_w]
       rfl
      clear hcv
      refine one_ (i:=40) (N:=some 130) #[true,true,true,true,true,true,true,true,true,true,true,true,true,true,true,true,true,true,true,true,true,true,true,true,true,true,true,true,true,true,true,true,true,true,true,true,true,true,true,true,true,false,false,false] rfl rfl (one_of HT_.out (by kernel_rfl)) (by decide) (fun K hK=>?_)
      refine goes_ Tryz.func37 (by kernel_rfl) rfl #[.slice Aw out.length cw] (by rfl) rfl rfl (by (try simp only [List.map_toArray,List.map_cons,List.map_nil]);first | done | rfl | (simp only [List.length_drop,List.length_take];rfl)) ?_
      with_reducible refine (r08_Write.calls k2 Aw cw out sX _ (VC (Kd.V_below HV.out HB.out)).1 HCW.out HRW.out).mono ?_
      rintro er w40 ⟨rfl,hb_⟩
      have n7_:=As.mk (Kd.C_below HC7.out hb_)
      clear HC7
      have HC7:=n7_
      clear n7_
      have n0_:=As.mk (bS HB.out hb_)
      clear HB hb_
      have HB:=n0_
      clear n0_
      refine ⟨_,rfl,?_⟩
      refine hK.out _ _ ⟨(pC HB.out Q0.out),(pC HB.out Q1.out),(pC HB.out Q2.out),(pC HB.out Q3.out),(pC HB.out Q4.out),(pC HB.out Q5.out)⟩ (fun hHeld=>?_)
      clear hK K
      refine norm_ (a':=?_) ?_ ?_
      rotate_left
      ·show Act.put _ (some 130) _ = _
       simp only [Act.put,List.setIfInBounds_toArray,List.set_cons_zero,List.set_cons_succ,i64_w,i32_w]
       rfl
      refine pure_ (i:=41) (N:=some 131) (v:=?_) (a':=?_) #[true,true,true,true,true,true,true,true,true,true,true,true,true,true,true,true,true,true,true,true,true,true,true,true,true,true,true,true,true,true,true,true,true,true,true,true,true,true,true,true,true,true,false,false] rfl rfl (any_of HT_.out (by kernel_rfl)) (fun _ _ _ h=>h) (Or.inl ⟨by rfl,?_⟩) ?_ ?_
      rotate_left
      ·intro w'
       go_simp
       with_reducible rfl
      rotate_left
      ·simp only [Act.put,List.setIfInBounds_toArray,List.set_cons_zero,List.set_cons_succ,i64_w,i32_w]
       rfl
      refine pure_ (i:=42) (N:=some 132) (v:=?_) (a':=?_) #[true,true,true,true,true,true,true,true,true,true,true,true,true,true,true,true,true,true,true,true,true,true,true,true,true,true,true,true,true,true,true,true,true,true,true,true,true,true,true,true,true,true,true,false] rfl rfl (any_of HT_.out (by kernel_rfl)) (fun _ _ _ h=>h) (Or.inl ⟨by rfl,?_⟩) ?_ ?_
      rotate_left
      ·intro w'
       go_simp
       with_reducible rfl
      rotate_left
      ·simp only [Act.put,List.setIfInBounds_toArray,List.set_cons_zero,List.set_cons_succ,i64_w,i32_w]
       rfl
      refine pure_ (i:=43) (N:=some 6) (v:=?_) (a':=?_) #[true,true,true,true,true,true,true,true,true,true,true,true,true,true,true,true,true,true,true,true,true,true,true,true,true,true,true,true,true,true,true,true,true,true,true,true,true,true,true,true,true,true,true,true] rfl rfl (any_of HT_.out (by kernel_rfl)) (fun _ _ _ h=>h) (Or.inl ⟨by rfl,?_⟩) ?_ ?_
      rotate_left
      ·intro w'
       go_simp
       with_reducible rfl
      rotate_left
      ·simp only [Act.put,List.setIfInBounds_toArray,List.set_cons_zero,List.set_cons_succ,i64_w,i32_w]
       rfl
      refine done_ (done_of HT_.out (by kernel_rfl)) ?_
      go_wp2_with (fail)
      go_ret
      exact ⟨rfl,bS HBW.out (bS HB19.out HB.out)⟩
     ·refine goes_ Tryz.func37 (by kernel_rfl) rfl #[.slice Aw out.length cw] (by rfl) rfl rfl (by (try simp only [List.map_toArray,List.map_cons,List.map_nil]);first | done | rfl | (simp only [List.length_drop,List.length_take];rfl)) ?_
      with_reducible refine (r08_Write.calls k2 Aw cw out sX _ (VC (Kd.V_below HV.out HB.out)).1 HCW.out HRW.out).mono ?_
      rintro er w40 ⟨rfl,hb_⟩
      have n7_:=As.mk (Kd.C_below HC7.out hb_)
      clear HC7
      have HC7:=n7_
      clear n7_
      have n0_:=As.mk (bS HB.out hb_)
      clear HB hb_
      have HB:=n0_
      clear n0_
      refine ⟨_,rfl,?_⟩
      refine hK.out _ _ ⟨(pC HB.out Q0.out),(pC HB.out Q1.out),(pC HB.out Q2.out),(pC HB.out Q3.out),(pC HB.out Q4.out),(pC HB.out Q5.out)⟩ (fun hHeld=>?_)
      clear hK K
      refine norm_ (a':=?_) ?_ ?_
      rotate_left
      ·show Act.put _ (some 130) _ = _
       simp only [Act.put,List.setIfInBounds_toArray,List.set_cons_zero,List.set_cons_succ,i64_w,i32_w]
       rfl
      have hcv:=Kd.C_string (P:=Tryz.prog) (c:=c7) Tryz.underlying54 Tryz.underlying5 Tryz.underlying9 HC7.out
      refine one_ (i:=38) (N:=some 128) #[true,true,true,true,true,true,true,true,true,true,true,true,true,true,true,true,true,true,true,true,true,true,true,true,true,true,true,true,true,true,true,true,true,true,true,true,true,true,true,true,true,false,false,false] rfl rfl (one_of HT_.out (by kernel_rfl)) (by decide) (fun K hK=>?_)
      refine value_ (w1:=?_) (v:=?_) (by rfl) rfl ?_ ?_
      rotate_left 2
      ·go_simp
       constructor
       ·rfl
       ·rfl
      refine hK.out _ _ ⟨(pC HB.out Q0.out),(pC HB.out Q1.out),(pC HB.out Q2.out),(pC HB.out Q3.out),(pC HB.out Q4.out),(pC HB.out Q5.out)⟩ (fun hHeld=>?_)
      clear hK K
      refine norm_ (a':=?_) ?_ ?_
      rotate_left
      ·show Act.put _ (some 128) _ = _
       simp only [Act.put,List.setIfInBounds_toArray,List.set_cons_zero,List.set_cons_succ,i64_w,i32_w]
       rfl
      clear hcv
      refine pure_ (i:=41) (N:=some 131) (v:=?_) (a':=?_) #[true,true,true,true,true,true,true,true,true,true,true,true,true,true,true,true,true,true,true,true,true,true,true,true,true,true,true,true,true,true,true,true,true,true,true,true,true,true,true,true,true,true,false,false] rfl rfl (any_of HT_.out (by kernel_rfl)) (fun _ _ _ h=>h) (Or.inl ⟨by rfl,?_⟩) ?_ ?_
      rotate_left
      ·intro w'
       go_simp
       with_reducible rfl
      rotate_left
      ·simp only [Act.put,List.setIfInBounds_toArray,List.set_cons_zero,List.set_cons_succ,i64_w,i32_w]
       rfl
      refine pure_ (i:=42) (N:=some 132) (v:=?_) (a':=?_) #[true,true,true,true,true,true,true,true,true,true,true,true,true,true,true,true,true,true,true,true,true,true,true,true,true,true,true,true,true,true,true,true,true,true,true,true,true,true,true,true,true,true,true,false] rfl rfl (any_of HT_.out (by kernel_rfl)) (fun _ _ _ h=>h) (Or.inl ⟨by rfl,?_⟩) ?_ ?_
      rotate_left
      ·intro w'
       go_simp
       with_reducible rfl
      rotate_left
      ·simp only [Act.put,List.setIfInBounds_toArray,List.set_cons_zero,List.set_cons_succ,i64_w,i32_w]
       rfl
      refine pure_ (i:=43) (N:=some 6) (v:=?_) (a':=?_) #[true,true,true,true,true,true,true,true,true,true,true,true,true,true,true,true,true,true,true,true,true,true,true,true,true,true,true,true,true,true,true,true,true,true,true,true,true,true,true,true,true,true,true,true] rfl rfl (any_of HT_.out (by kernel_rfl)) (fun _ _ _ h=>h) (Or.inl ⟨by rfl,?_⟩) ?_ ?_
      rotate_left
      ·intro w'
       go_simp
       with_reducible rfl
      rotate_left
      ·simp only [Act.put,List.setIfInBounds_toArray,List.set_cons_zero,List.set_cons_succ,i64_w,i32_w]
       rfl
      refine done_ (done_of HT_.out (by kernel_rfl)) ?_
      go_wp2_with (fail)
      go_ret
      exact ⟨rfl,bS HBW.out (bS HB19.out HB.out)⟩
    | true=>as_aux_lemma =>
     have HHAS:=As.mk (show Maps.has (mapK key out) (KL ks) = true by rw [has_mapK];exact hh)
     obtain ⟨j,hj,hrj,hkj⟩:=HFJ.out (of_decide_eq_true (HFR.out.trans hh))
     obtain ⟨d,hd⟩ : ∃ d,d = out[j]:=⟨_,rfl⟩
     have HAT:=As.mk (show ∀ z,(mapK key out).atKey (KL ks) z = .held d from fun z=>by rw [hd,← hkj];exact at_mapK HRIS.out hj)
     have HDV:=As.mk (show d.f3.length ≤ 1000000 by rw [hd];exact HOV.out _ (List.getElem_mem hj))
     have HRSD:=As.mk (show r07_Same.f k d.f0 d.f1 d.f2 d.f3 d.f4 d.f5 d.f0 d.f1 d.f2 d.f3 d.f4 d.f5 = some true by rw [HRS.out d (by rw [hd];exact List.getElem_mem hj) d (by rw [hd];exact List.getElem_mem hj),HOE.out d (by rw [hd];exact List.getElem_mem hj)])
     have HJ:=As.mk hj
     have HDJ:=As.mk hd
     subst hrj
     have g1_ : (0 ≤ (j : Int)) = True:=eq_true (by omega)
     have g2_ : decide (0 ≤ (j : Int)) = true:=decide_eq_true (by omega)
     clear hh HFJ HFR hkj hd
     go_upto_region 16 with (first | (go_at_call 17;(with_reducible refine (new_gen key k Ao co (turnedD l turn) _ (mapK key out) 0 ?s1 HLO.out HLT4.out HKT.out HNG2.out).mono ?_);(case s1=>exact Kd.C_below HCO.out (by repeat (first | (with_reducible first | exact HBO.out | apply bA | apply bN | apply bD) | exact HBO.out)));rintro e w5 ⟨pt,rfl,hg_,_,hb_⟩;obtain ⟨gt,bt,he_,hct_,hmt_⟩:=hg_ rfl;(injection he_ with he_);subst he_;have HTN:=As.mk (show SnR w5 (.pointer (some ⟨gt,0,none⟩)) (mapK key out) from ⟨gt,bt,rfl,hct_,hmt_⟩);have n0_:=As.mk (bS (by repeat (first | (with_reducible first | exact HB.out | apply bA | apply bN | apply bD) | exact HB.out)) hb_);clear HB hb_;have HB:=n0_;clear n0_;clear hct_ hmt_ HBO) | (go_at_call 32;(with_reducible refine (get_yes _ (some ⟨gs,0,none⟩) (mapK key out) ks ?s1 HKM.out d HHAS.out HAT.out HDV.out).mono ?_);(case s1=>exact HSN.out.below (by repeat (first | (with_reducible first | exact HB.out | apply bA | apply bN | apply bD) | exact HB.out)));rintro e wg ⟨A3,c3,rfl,hl3_,hC3_,hb_⟩;have HL3:=As.mk hl3_;have HC3:=As.mk hC3_;have mHTN_:=As.mk (HTN.out.below hb_);clear HTN;have HTN:=mHTN_;clear mHTN_;have n0_:=As.mk (bS (by repeat (first | (with_reducible first | exact HB.out | apply bA | apply bN | apply bD) | exact HB.out)) hb_);clear HB hb_;have HB:=n0_;clear n0_;clear hl3_ hC3_))
     have bk_:=blk_new wg (Obj.cells #[.int .i64 d.f0,.string d.f1,.string d.f2,.slice A3 d.f3.length c3,.string d.f4,.string d.f5] 34)
     have hb_:=bA (Below.refl wg.heap.size wg) (Obj.cells #[.int .i64 d.f0,.string d.f1,.string d.f2,.slice A3 d.f3.length c3,.string d.f4,.string d.f5] 34)
     generalize wg.alloc (Obj.cells #[.int .i64 d.f0,.string d.f1,.string d.f2,.slice A3 d.f3.length c3,.string d.f4,.string d.f5] 34) = W15 at bk_ hb_ ⊢
     obtain ⟨g15,hg15⟩ : ∃ g15,g15 = wg.heap.size:=⟨_,rfl⟩
     rw [← hg15] at bk_ ⊢
     clear hg15
     have BK:=As.mk bk_
     have mHTN_:=As.mk (HTN.out.below hb_);clear HTN;have HTN:=mHTN_;clear mHTN_
     have mHC3_:=As.mk (Kd.C_below HC3.out hb_);clear HC3;have HC3:=mHC3_;clear mHC3_
     have n0_:=As.mk (bS HB.out hb_)
     clear HB hb_ bk_
     have HB:=n0_
     clear n0_
     go_upto_region 19 with (first | (go_at_call 33;(with_reducible refine (r08_Find.calls k1 Aw cw out ks (j : Int) _ ?s1 HCW.out HFD.out).mono ?_);(case s1=>exact (VC (Kd.V_below HV.out (by repeat (first | (with_reducible first | exact HB.out | apply bA | apply bN | apply bD) | exact HB.out)))).1);rintro e wf ⟨rfl,hb_⟩;have mHTN_:=As.mk (HTN.out.below hb_);clear HTN;have HTN:=mHTN_;clear mHTN_;have mHC3_:=As.mk (Kd.C_below HC3.out hb_);clear HC3;have HC3:=mHC3_;clear mHC3_;have mBK_:=As.mk (blk_below BK.out hb_);clear BK;have BK:=mBK_;clear mBK_;have n0_:=As.mk (bS (by repeat (first | (with_reducible first | exact HB.out | apply bA | apply bN | apply bD) | exact HB.out)) hb_);clear HB hb_;have HB:=n0_;clear n0_))
     have Q0:=As.mk (show wf.cell? ⟨g15,0,none⟩ = some (.int .i64 d.f0) from (bC BK.out 0).trans rfl)
     have Q1:=As.mk (show wf.cell? ⟨g15,1,none⟩ = some (.string d.f1) from (bC BK.out 1).trans rfl)
     have Q2:=As.mk (show wf.cell? ⟨g15,2,none⟩ = some (.string d.f2) from (bC BK.out 2).trans rfl)
     have Q3:=As.mk (show wf.cell? ⟨g15,3,none⟩ = some (.slice A3 d.f3.length c3) from (bC BK.out 3).trans rfl)
     have Q4:=As.mk (show wf.cell? ⟨g15,4,none⟩ = some (.string d.f4) from (bC BK.out 4).trans rfl)
     have Q5:=As.mk (show wf.cell? ⟨g15,5,none⟩ = some (.string d.f5) from (bC BK.out 5).trans rfl)
     obtain ⟨ad,Ae,ce,e_,e0_,e1_,e2_,e3_,e4_,e5_,hle_,hCe_⟩:=at_T34 (VC (Kd.V_below HV.out HB.out)).1 (j : Int) (by omega) (by have:=HJ.out;omega)
     rw [rd_at out j HJ.out,← HDJ.out] at e0_ e1_ e2_ e3_ e4_ e5_ hle_ hCe_
     rw [Int.toNat_natCast] at e0_ e1_ e2_ e3_ e4_ e5_
     subst e_
     have HLE:=As.mk hle_
     have HCE:=As.mk hCe_
     have Q6:=As.mk e0_
     have Q7:=As.mk e1_
     have Q8:=As.mk e2_
     have Q9:=As.mk e3_
     have Q10:=As.mk e4_
     have Q11:=As.mk e5_
     have hj1_ : ((j : Int) < (out.length : Int)) = True:=eq_true (by have:=HJ.out;omega)
     have hj2_ : (j < out.length) = True:=eq_true HJ.out
     clear hle_ hCe_ e0_ e1_ e2_ e3_ e4_ e5_
     refine start_ (n:=44) (S:=fun w'=>w'.cell? ⟨g15,0,none⟩ = some (.int .i64 d.f0) ∧ w'.cell? ⟨g15,1,none⟩ = some (.string d.f1) ∧ w'.cell? ⟨g15,2,none⟩ = some (.string d.f2) ∧ w'.cell? ⟨g15,3,none⟩ = some (.slice A3 d.f3.length c3) ∧ w'.cell? ⟨g15,4,none⟩ = some (.string d.f4) ∧ w'.cell? ⟨g15,5,none⟩ = some (.string d.f5) ∧ w'.cell? (ad.add (j * 6)) = some (.int .i64 d.f0) ∧ w'.cell? ⟨(ad.add (j * 6)).block,(ad.add (j * 6)).off + 1,none⟩ = some (.string d.f1) ∧ w'.cell? ⟨(ad.add (j * 6)).block,(ad.add (j * 6)).off + 2,none⟩ = some (.string d.f2) ∧ w'.cell? ⟨(ad.add (j * 6)).block,(ad.add (j * 6)).off + 3,none⟩ = some (.slice Ae d.f3.length ce) ∧ w'.cell? ⟨(ad.add (j * 6)).block,(ad.add (j * 6)).off + 4,none⟩ = some (.string d.f4) ∧ w'.cell? ⟨(ad.add (j * 6)).block,(ad.add (j * 6)).off + 5,none⟩ = some (.string d.f5)) (ds:=[]) #[false,false,false,false,false,false,false,false,false,false,false,false,false,false,false,false,false,false,false,false,false,false,false,false,false,false,false,false,false,false,false,false,false,false,false,false,false,false,false,false,false,false,false,false] (by kernel_rfl) rfl rfl ⟨(pC (bD (Below.refl _ wf)) Q0.out),(pC (bD (Below.refl _ wf)) Q1.out),(pC (bD (Below.refl _ wf)) Q2.out),(pC (bD (Below.refl _ wf)) Q3.out),(pC (bD (Below.refl _ wf)) Q4.out),(pC (bD (Below.refl _ wf)) Q5.out),(pC (bD (Below.refl _ wf)) Q6.out),(pC (bD (Below.refl _ wf)) Q7.out),(pC (bD (Below.refl _ wf)) Q8.out),(pC (bD (Below.refl _ wf)) Q9.out),(pC (bD (Below.refl _ wf)) Q10.out),(pC (bD (Below.refl _ wf)) Q11.out)⟩ (fun hHeld=>?_);refine with_tabW snapnews.tab19 snapnews.bits19 (fun HT_ HW_=>?_)
     have yHSN:=As.mk (HSN.out.below (bS HB.out (bD (Below.refl _ wf))))
     have yHTN:=As.mk (HTN.out.below (bD (Below.refl _ wf)))
     have yHV:=As.mk (Kd.V_below HV.out (bS HB.out (bD (Below.refl _ wf))))
     have yHC3:=As.mk (Kd.C_below HC3.out (bD (Below.refl _ wf)))
     have yHCE:=As.mk (Kd.C_below HCE.out (bD (Below.refl _ wf)))
     have yQ0:=As.mk ((pC (bD (Below.refl _ wf)) Q0.out))
     have yQ1:=As.mk ((pC (bD (Below.refl _ wf)) Q1.out))
     have yQ2:=As.mk ((pC (bD (Below.refl _ wf)) Q2.out))
     have yQ3:=As.mk ((pC (bD (Below.refl _ wf)) Q3.out))
     have yQ4:=As.mk ((pC (bD (Below.refl _ wf)) Q4.out))
     have yQ5:=As.mk ((pC (bD (Below.refl _ wf)) Q5.out))
     have yQ6:=As.mk ((pC (bD (Below.refl _ wf)) Q6.out))
     have yQ7:=As.mk ((pC (bD (Below.refl _ wf)) Q7.out))
     have yQ8:=As.mk ((pC (bD (Below.refl _ wf)) Q8.out))
     have yQ9:=As.mk ((pC (bD (Below.refl _ wf)) Q9.out))
     have yQ10:=As.mk ((pC (bD (Below.refl _ wf)) Q10.out))
     have yQ11:=As.mk ((pC (bD (Below.refl _ wf)) Q11.out))
     have yB:=As.mk (bS HB.out (bD (Below.refl _ wf)))
     clear HB BK HSN HTN HV HC3 HCE Q0 Q1 Q2 Q3 Q4 Q5 Q6 Q7 Q8 Q9 Q10 Q11
     generalize wf.drew = W19 at yHSN yHTN yHV yHC3 yHCE yQ0 yQ1 yQ2 yQ3 yQ4 yQ5 yQ6 yQ7 yQ8 yQ9 yQ10 yQ11 yB hHeld ⊢
     have HSN:=yHSN
     have HTN:=yHTN
     have HV:=yHV
     have HC3:=yHC3
     have HCE:=yHCE
     have Q0:=yQ0
     have Q1:=yQ1
     have Q2:=yQ2
     have Q3:=yQ3
     have Q4:=yQ4
     have Q5:=yQ5
     have Q6:=yQ6
     have Q7:=yQ7
     have Q8:=yQ8
     have Q9:=yQ9
     have Q10:=yQ10
     have Q11:=yQ11
     have HB19:=yB
     have HB:=As.mk (Below.refl W19.heap.size W19)
     clear yB yHSN yHTN yHV yHC3 yHCE yQ0 yQ1 yQ2 yQ3 yQ4 yQ5 yQ6 yQ7 yQ8 yQ9 yQ10 yQ11
     refine pure_ (i:=0) (N:=some 90) (v:=?_) (a':=?_) #[true,false,false,false,false,false,false,false,false,false,false,false,false,false,false,false,false,false,false,false,false,false,false,false,false,false,false,false,false,false,false,false,false,false,false,false,false,false,false,false,false,false,false,false] rfl rfl (any_of HT_.out (by kernel_rfl)) (fun _ _ _ h=>h) (Or.inl ⟨by rfl,?_⟩) ?_ ?_
     rotate_left
     ·intro w'
      go_simp
      with_reducible rfl
     rotate_left
     ·simp only [Act.put,List.setIfInBounds_toArray,List.set_cons_zero,List.set_cons_succ,i64_w,i32_w]
      rfl
     refine pure_ (i:=1) (N:=some 91) (v:=?_) (a':=?_) #[true,true,false,false,false,false,false,false,false,false,false,false,false,false,false,false,false,false,false,false,false,false,false,false,false,false,false,false,false,false,false,false,false,false,false,false,false,false,false,false,false,false,false,false] rfl rfl (any_of HT_.out (by kernel_rfl)) (fun _ _ _ h=>h) (Or.inl ⟨by rfl,?_⟩) ?_ ?_
     rotate_left
     ·intro w'
      go_simp
      with_reducible rfl
     rotate_left
     ·simp only [Act.put,List.setIfInBounds_toArray,List.set_cons_zero,List.set_cons_succ,i64_w,i32_w]
      rfl
     refine one_ (i:=2) (N:=some 92) #[true,true,true,false,false,false,false,false,false,false,false,false,false,false,false,false,false,false,false,false,false,false,false,false,false,false,false,false,false,false,false,false,false,false,false,false,false,false,false,false,false,false,false,false] rfl rfl (one_of HT_.out (by kernel_rfl)) (by decide) (fun K hK=>?_)
     refine goes_ Tryz.func21 (by kernel_rfl) rfl #[.pointer (some ⟨gs,0,none⟩),.slice (some ad) out.length cw] (by rfl) rfl rfl (by (try simp only [List.map_toArray,List.map_cons,List.map_nil]);first | done | rfl | (simp only [List.length_drop,List.length_take];rfl)) ?_
     with_reducible refine (is_same key sm k _ (some ⟨gs,0,none⟩) out (some ad) cw (Sn_of (HSN.out.below HB.out)) (Kd.V_below HV.out HB.out) HOL.out HOV.out HRS.out HOE.out).mono ?_
     rintro er wi ⟨rfl,hb_⟩
     have n0_:=As.mk (bS HB.out hb_)
     clear HB hb_
     have HB:=n0_
     clear n0_
     refine ⟨_,rfl,?_⟩
     refine hK.out _ _ ⟨(pC HB.out Q0.out),(pC HB.out Q1.out),(pC HB.out Q2.out),(pC HB.out Q3.out),(pC HB.out Q4.out),(pC HB.out Q5.out),(pC HB.out Q6.out),(pC HB.out Q7.out),(pC HB.out Q8.out),(pC HB.out Q9.out),(pC HB.out Q10.out),(pC HB.out Q11.out)⟩ (fun hHeld=>?_)
     clear hK K
     refine norm_ (a':=?_) ?_ ?_
     rotate_left
     ·show Act.put _ (some 92) _ = _
      simp only [Act.put,List.setIfInBounds_toArray,List.set_cons_zero,List.set_cons_succ,i64_w,i32_w]
      rfl
     refine pure_ (i:=3) (N:=some 93) (v:=?_) (a':=?_) #[true,true,true,true,false,false,false,false,false,false,false,false,false,false,false,false,false,false,false,false,false,false,false,false,false,false,false,false,false,false,false,false,false,false,false,false,false,false,false,false,false,false,false,false] rfl rfl (any_of HT_.out (by kernel_rfl)) (fun _ _ _ h=>h) (Or.inl ⟨by rfl,?_⟩) ?_ ?_
     rotate_left
     ·intro w'
      go_simp
      with_reducible rfl
     rotate_left
     ·simp only [Act.put,List.setIfInBounds_toArray,List.set_cons_zero,List.set_cons_succ,i64_w,i32_w]
      rfl
     refine pure_ (i:=4) (N:=some 94) (v:=?_) (a':=?_) #[true,true,true,true,true,false,false,false,false,false,false,false,false,false,false,false,false,false,false,false,false,false,false,false,false,false,false,false,false,false,false,false,false,false,false,false,false,false,false,false,false,false,false,false] rfl rfl (any_of HT_.out (by kernel_rfl)) (fun _ _ _ h=>h) (Or.inl ⟨by rfl,?_⟩) ?_ ?_
     rotate_left
     ·intro w'
      go_simp
      with_reducible rfl
     rotate_left
     ·simp only [Act.put,List.setIfInBounds_toArray,List.set_cons_zero,List.set_cons_succ,i64_w,i32_w]
      rfl
     refine pure_ (i:=5) (N:=some 95) (v:=?_) (a':=?_) #[true,true,true,true,true,true,false,false,false,false,false,false,false,false,false,false,false,false,false,false,false,false,false,false,false,false,false,false,false,false,false,false,false,false,false,false,false,false,false,false,false,false,false,false] rfl rfl (any_of HT_.out (by kernel_rfl)) (fun _ _ _ h=>h) (Or.inl ⟨by rfl,?_⟩) ?_ ?_
     rotate_left
     ·intro w'
      go_simp
      with_reducible rfl
     rotate_left
     ·simp only [Act.put,List.setIfInBounds_toArray,List.set_cons_zero,List.set_cons_succ,i64_w,i32_w]
      rfl
     refine pure_ (i:=6) (N:=some 96) (v:=?_) (a':=?_) #[true,true,true,true,true,true,true,false,false,false,false,false,false,false,false,false,false,false,false,false,false,false,false,false,false,false,false,false,false,false,false,false,false,false,false,false,false,false,false,false,false,false,false,false] rfl rfl (any_of HT_.out (by kernel_rfl)) (fun _ _ _ h=>h) (Or.inl ⟨by rfl,?_⟩) ?_ ?_
     rotate_left
     ·intro w'
      go_simp
      with_reducible rfl
     rotate_left
     ·simp only [Act.put,List.setIfInBounds_toArray,List.set_cons_zero,List.set_cons_succ,i64_w,i32_w]
      rfl
     refine pure_ (i:=7) (N:=some 97) (v:=?_) (a':=?_) #[true,true,true,true,true,true,true,true,false,false,false,false,false,false,false,false,false,false,false,false,false,false,false,false,false,false,false,false,false,false,false,false,false,false,false,false,false,false,false,false,false,false,false,false] rfl rfl (any_of HT_.out (by kernel_rfl)) (fun _ _ _ h=>h) (Or.inl ⟨by rfl,?_⟩) ?_ ?_
     rotate_left
     ·intro w'
      go_simp
      with_reducible rfl
     rotate_left
     ·simp only [Act.put,List.setIfInBounds_toArray,List.set_cons_zero,List.set_cons_succ,i64_w,i32_w]
      rfl
     refine pure_ (i:=8) (N:=some 98) (v:=?_) (a':=?_) #[true,true,true,true,true,true,true,true,true,false,false,false,false,false,false,false,false,false,false,false,false,false,false,false,false,false,false,false,false,false,false,false,false,false,false,false,false,false,false,false,false,false,false,false] rfl rfl (any_of HT_.out (by kernel_rfl)) (fun _ _ _ h=>h) (Or.inl ⟨by rfl,?_⟩) ?_ ?_
     rotate_left
     ·intro w'
      go_simp
      with_reducible rfl
     rotate_left
     ·simp only [Act.put,List.setIfInBounds_toArray,List.set_cons_zero,List.set_cons_succ,i64_w,i32_w]
      rfl
     refine pure_ (i:=9) (N:=some 99) (v:=?_) (a':=?_) #[true,true,true,true,true,true,true,true,true,true,false,false,false,false,false,false,false,false,false,false,false,false,false,false,false,false,false,false,false,false,false,false,false,false,false,false,false,false,false,false,false,false,false,false] rfl rfl (any_of HT_.out (by kernel_rfl)) (fun _ _ _ h=>h) (Or.inl ⟨by rfl,?_⟩) ?_ ?_
     rotate_left
     ·intro w'
      go_simp
      with_reducible rfl
     rotate_left
     ·simp only [Act.put,List.setIfInBounds_toArray,List.set_cons_zero,List.set_cons_succ,i64_w,i32_w]
      rfl
     refine one_ (i:=10) (N:=some 100) #[true,true,true,true,true,true,true,true,true,true,true,false,false,false,false,false,false,false,false,false,false,false,false,false,false,false,false,false,false,false,false,false,false,false,false,false,false,false,false,false,false,false,false,false] rfl rfl (one_of HT_.out (by kernel_rfl)) (by decide) (fun K hK=>?_)
     refine goes_ Tryz.func34 (by kernel_rfl) rfl #[.pointer (some ⟨gs,0,none⟩),.pointer (some ⟨gt,0,none⟩)] (by rfl) rfl rfl (by (try simp only [List.map_toArray,List.map_cons,List.map_nil]);first | done | rfl | (simp only [List.length_drop,List.length_take];rfl)) ?_
     with_reducible refine (same_self key sm k _ _ _ out (HSN.out.below HB.out) (HTN.out.below HB.out) HOL.out HDS.out HOE.out).mono ?_
     rintro er w10 ⟨rfl,hb_⟩
     have n0_:=As.mk (bS HB.out hb_)
     clear HB hb_
     have HB:=n0_
     clear n0_
     refine ⟨_,rfl,?_⟩
     refine hK.out _ _ ⟨(pC HB.out Q0.out),(pC HB.out Q1.out),(pC HB.out Q2.out),(pC HB.out Q3.out),(pC HB.out Q4.out),(pC HB.out Q5.out),(pC HB.out Q6.out),(pC HB.out Q7.out),(pC HB.out Q8.out),(pC HB.out Q9.out),(pC HB.out Q10.out),(pC HB.out Q11.out)⟩ (fun hHeld=>?_)
     clear hK K
     refine norm_ (a':=?_) ?_ ?_
     rotate_left
     ·show Act.put _ (some 100) _ = _
      simp only [Act.put,List.setIfInBounds_toArray,List.set_cons_zero,List.set_cons_succ,i64_w,i32_w]
      rfl
     refine pure_ (i:=11) (N:=some 101) (v:=?_) (a':=?_) #[true,true,true,true,true,true,true,true,true,true,true,true,false,false,false,false,false,false,false,false,false,false,false,false,false,false,false,false,false,false,false,false,false,false,false,false,false,false,false,false,false,false,false,false] rfl rfl (any_of HT_.out (by kernel_rfl)) (fun _ _ _ h=>h) (Or.inl ⟨by rfl,?_⟩) ?_ ?_
     rotate_left
     ·intro w'
      go_simp
      with_reducible rfl
     rotate_left
     ·simp only [Act.put,List.setIfInBounds_toArray,List.set_cons_zero,List.set_cons_succ,i64_w,i32_w]
      rfl
     refine pure_ (i:=12) (N:=some 102) (v:=?_) (a':=?_) #[true,true,true,true,true,true,true,true,true,true,true,true,true,false,false,false,false,false,false,false,false,false,false,false,false,false,false,false,false,false,false,false,false,false,false,false,false,false,false,false,false,false,false,false] rfl rfl (any_of HT_.out (by kernel_rfl)) (fun _ _ _ h=>h) (Or.inl ⟨by rfl,?_⟩) ?_ ?_
     rotate_left
     ·intro w'
      go_simp
      with_reducible rfl
     rotate_left
     ·simp only [Act.put,List.setIfInBounds_toArray,List.set_cons_zero,List.set_cons_succ,i64_w,i32_w]
      rfl
     refine pure_ (i:=13) (N:=some 103) (v:=?_) (a':=?_) #[true,true,true,true,true,true,true,true,true,true,true,true,true,true,false,false,false,false,false,false,false,false,false,false,false,false,false,false,false,false,false,false,false,false,false,false,false,false,false,false,false,false,false,false] rfl rfl (any_of HT_.out (by kernel_rfl)) (fun _ _ _ h=>h) (Or.inl ⟨by rfl,?_⟩) ?_ ?_
     rotate_left
     ·intro w'
      go_simp
      with_reducible rfl
     rotate_left
     ·simp only [Act.put,List.setIfInBounds_toArray,List.set_cons_zero,List.set_cons_succ,i64_w,i32_w]
      rfl
     refine pure_ (i:=14) (N:=some 104) (v:=?_) (a':=?_) #[true,true,true,true,true,true,true,true,true,true,true,true,true,true,true,false,false,false,false,false,false,false,false,false,false,false,false,false,false,false,false,false,false,false,false,false,false,false,false,false,false,false,false,false] rfl rfl (any_of HT_.out (by kernel_rfl)) (fun _ _ _ h=>h) (Or.inl ⟨by rfl,?_⟩) ?_ ?_
     rotate_left
     ·intro w'
      go_simp
      with_reducible rfl
     rotate_left
     ·simp only [Act.put,List.setIfInBounds_toArray,List.set_cons_zero,List.set_cons_succ,i64_w,i32_w]
      rfl
     refine one_ (i:=15) (N:=some 105) #[true,true,true,true,true,true,true,true,true,true,true,true,true,true,true,true,false,false,false,false,false,false,false,false,false,false,false,false,false,false,false,false,false,false,false,false,false,false,false,false,false,false,false,false] rfl rfl (one_of HT_.out (by kernel_rfl)) (by decide) (fun K hK=>?_)
     refine goes_ Tryz.func34 (by kernel_rfl) rfl #[.pointer (some ⟨gt,0,none⟩),.pointer (some ⟨gs,0,none⟩)] (by rfl) rfl rfl (by (try simp only [List.map_toArray,List.map_cons,List.map_nil]);first | done | rfl | (simp only [List.length_drop,List.length_take];rfl)) ?_
     with_reducible refine (same_self key sm k _ _ _ out (HTN.out.below HB.out) (HSN.out.below HB.out) HOL.out HDS.out HOE.out).mono ?_
     rintro er w15 ⟨rfl,hb_⟩
     have n0_:=As.mk (bS HB.out hb_)
     clear HB hb_
     have HB:=n0_
     clear n0_
     refine ⟨_,rfl,?_⟩
     refine hK.out _ _ ⟨(pC HB.out Q0.out),(pC HB.out Q1.out),(pC HB.out Q2.out),(pC HB.out Q3.out),(pC HB.out Q4.out),(pC HB.out Q5.out),(pC HB.out Q6.out),(pC HB.out Q7.out),(pC HB.out Q8.out),(pC HB.out Q9.out),(pC HB.out Q10.out),(pC HB.out Q11.out)⟩ (fun hHeld=>?_)
     clear hK K
     refine norm_ (a':=?_) ?_ ?_
     rotate_left
     ·show Act.put _ (some 105) _ = _
      simp only [Act.put,List.setIfInBounds_toArray,List.set_cons_zero,List.set_cons_succ,i64_w,i32_w]
      rfl
     refine pure_ (i:=16) (N:=some 106) (v:=?_) (a':=?_) #[true,true,true,true,true,true,true,true,true,true,true,true,true,true,true,true,true,false,false,false,false,false,false,false,false,false,false,false,false,false,false,false,false,false,false,false,false,false,false,false,false,false,false,false] rfl rfl (any_of HT_.out (by kernel_rfl)) (fun _ _ _ h=>h) (Or.inl ⟨by rfl,?_⟩) ?_ ?_
     rotate_left
     ·intro w'
      go_simp
      with_reducible rfl
     rotate_left
     ·simp only [Act.put,List.setIfInBounds_toArray,List.set_cons_zero,List.set_cons_succ,i64_w,i32_w]
      rfl
     refine pure_ (i:=17) (N:=some 107) (v:=?_) (a':=?_) #[true,true,true,true,true,true,true,true,true,true,true,true,true,true,true,true,true,true,false,false,false,false,false,false,false,false,false,false,false,false,false,false,false,false,false,false,false,false,false,false,false,false,false,false] rfl rfl (any_of HT_.out (by kernel_rfl)) (fun _ _ _ h=>h) (Or.inl ⟨by rfl,?_⟩) ?_ ?_
     rotate_left
     ·intro w'
      go_simp
      with_reducible rfl
     rotate_left
     ·simp only [Act.put,List.setIfInBounds_toArray,List.set_cons_zero,List.set_cons_succ,i64_w,i32_w]
      rfl
     refine pure_ (i:=18) (N:=some 108) (v:=?_) (a':=?_) #[true,true,true,true,true,true,true,true,true,true,true,true,true,true,true,true,true,true,true,false,false,false,false,false,false,false,false,false,false,false,false,false,false,false,false,false,false,false,false,false,false,false,false,false] rfl rfl (any_of HT_.out (by kernel_rfl)) (fun _ _ _ h=>h) (Or.inl ⟨by rfl,?_⟩) ?_ ?_
     rotate_left
     ·intro w'
      go_simp
      with_reducible rfl
     rotate_left
     ·simp only [Act.put,List.setIfInBounds_toArray,List.set_cons_zero,List.set_cons_succ,i64_w,i32_w]
      rfl
     refine pure_ (i:=19) (N:=some 109) (v:=?_) (a':=?_) #[true,true,true,true,true,true,true,true,true,true,true,true,true,true,true,true,true,true,true,true,false,false,false,false,false,false,false,false,false,false,false,false,false,false,false,false,false,false,false,false,false,false,false,false] rfl rfl (any_of HT_.out (by kernel_rfl)) (fun _ _ _ h=>h) (Or.inl ⟨by rfl,?_⟩) ?_ ?_
     rotate_left
     ·intro w'
      go_simp
      with_reducible rfl
     rotate_left
     ·simp only [Act.put,List.setIfInBounds_toArray,List.set_cons_zero,List.set_cons_succ,i64_w,i32_w]
      rfl
     refine pure_ (i:=20) (N:=some 110) (v:=?_) (a':=?_) #[true,true,true,true,true,true,true,true,true,true,true,true,true,true,true,true,true,true,true,true,true,false,false,false,false,false,false,false,false,false,false,false,false,false,false,false,false,false,false,false,false,false,false,false] rfl rfl (any_of HT_.out (by kernel_rfl)) (fun _ _ _ h=>h) (Or.inl ⟨by rfl,?_⟩) ?_ ?_
     rotate_left
     ·intro w'
      go_simp
      with_reducible rfl
     rotate_left
     ·simp only [Act.put,List.setIfInBounds_toArray,List.set_cons_zero,List.set_cons_succ,i64_w,i32_w]
      rfl
     refine pure_ (i:=21) (N:=some 111) (v:=?_) (a':=?_) #[true,true,true,true,true,true,true,true,true,true,true,true,true,true,true,true,true,true,true,true,true,true,false,false,false,false,false,false,false,false,false,false,false,false,false,false,false,false,false,false,false,false,false,false] rfl rfl (any_of HT_.out (by kernel_rfl)) (fun _ _ _ h=>h) (Or.inl ⟨by rfl,?_⟩) ?_ ?_
     rotate_left
     ·intro w'
      go_simp
      with_reducible rfl
     rotate_left
     ·simp only [Act.put,List.setIfInBounds_toArray,List.set_cons_zero,List.set_cons_succ,i64_w,i32_w]
      rfl
     refine pure_ (i:=22) (N:=some 112) (v:=?_) (a':=?_) #[true,true,true,true,true,true,true,true,true,true,true,true,true,true,true,true,true,true,true,true,true,true,true,false,false,false,false,false,false,false,false,false,false,false,false,false,false,false,false,false,false,false,false,false] rfl rfl (any_of HT_.out (by kernel_rfl)) (fun _ _ _ h=>h) (Or.inl ⟨by rfl,?_⟩) ?_ ?_
     rotate_left
     ·intro w'
      go_simp
      with_reducible rfl
     rotate_left
     ·simp only [Act.put,List.setIfInBounds_toArray,List.set_cons_zero,List.set_cons_succ,i64_w,i32_w]
      rfl
     refine pure_ (i:=23) (N:=some 113) (v:=?_) (a':=?_) #[true,true,true,true,true,true,true,true,true,true,true,true,true,true,true,true,true,true,true,true,true,true,true,true,false,false,false,false,false,false,false,false,false,false,false,false,false,false,false,false,false,false,false,false] rfl rfl (any_of HT_.out (by kernel_rfl)) (fun _ _ _ h=>h) (Or.inl ⟨by rfl,?_⟩) ?_ ?_
     rotate_left
     ·intro w'
      go_simp
      with_reducible rfl
     rotate_left
     ·simp only [Act.put,List.setIfInBounds_toArray,List.set_cons_zero,List.set_cons_succ,i64_w,i32_w]
      rfl
     refine pure_ (i:=24) (N:=some 114) (v:=?_) (a':=?_) #[true,true,true,true,true,true,true,true,true,true,true,true,true,true,true,true,true,true,true,true,true,true,true,true,true,false,false,false,false,false,false,false,false,false,false,false,false,false,false,false,false,false,false,false] rfl rfl (any_of HT_.out (by kernel_rfl)) (fun _ _ _ h=>h) (Or.inl ⟨by rfl,?_⟩) ?_ ?_
     rotate_left
     ·intro w'
      go_simp
      with_reducible rfl
     rotate_left
     ·simp only [Act.put,List.setIfInBounds_toArray,List.set_cons_zero,List.set_cons_succ,i64_w,i32_w]
      rfl
     refine pure_ (i:=25) (N:=some 115) (v:=?_) (a':=?_) #[true,true,true,true,true,true,true,true,true,true,true,true,true,true,true,true,true,true,true,true,true,true,true,true,true,true,false,false,false,false,false,false,false,false,false,false,false,false,false,false,false,false,false,false] rfl rfl (any_of HT_.out (by kernel_rfl)) (fun _ _ _ h=>h) (Or.inl ⟨by rfl,?_⟩) ?_ ?_
     rotate_left
     ·intro w'
      go_simp
      with_reducible rfl
     rotate_left
     ·simp only [Act.put,List.setIfInBounds_toArray,List.set_cons_zero,List.set_cons_succ,i64_w,i32_w]
      rfl
     refine pure_ (i:=26) (N:=some 116) (v:=?_) (a':=?_) #[true,true,true,true,true,true,true,true,true,true,true,true,true,true,true,true,true,true,true,true,true,true,true,true,true,true,true,false,false,false,false,false,false,false,false,false,false,false,false,false,false,false,false,false] rfl rfl (any_of HT_.out (by kernel_rfl)) (fun _ _ _ h=>h) (Or.inl ⟨by rfl,?_⟩) ?_ ?_
     rotate_left
     ·intro w'
      go_simp
      with_reducible rfl
     rotate_left
     ·simp only [Act.put,List.setIfInBounds_toArray,List.set_cons_zero,List.set_cons_succ,i64_w,i32_w]
      rfl
     refine take_ (i:=27) (N:=some 117) (v:=?_) (a':=?_) #[true,true,true,true,true,true,true,true,true,true,true,true,true,true,true,true,true,true,true,true,true,true,true,true,true,true,true,true,false,false,false,false,false,false,false,false,false,false,false,false,false,false,false,false] rfl rfl (take_ofW HT_.out HW_.out (by kernel_rfl)) (fun _ _ _ h=>h) (Or.inl ⟨by rfl,?_⟩) hHeld ?_ ?_
     rotate_left
     ·rintro w' ⟨s0,s1,s2,s3,s4,s5,s6,s7,s8,s9,s10,s11⟩
      go_simp
      with_reducible rfl
     rotate_left
     ·simp only [Act.put,List.setIfInBounds_toArray,List.set_cons_zero,List.set_cons_succ,i64_w,i32_w]
      rfl
     refine pure_ (i:=28) (N:=some 118) (v:=?_) (a':=?_) #[true,true,true,true,true,true,true,true,true,true,true,true,true,true,true,true,true,true,true,true,true,true,true,true,true,true,true,true,true,false,false,false,false,false,false,false,false,false,false,false,false,false,false,false] rfl rfl (any_of HT_.out (by kernel_rfl)) (fun _ _ _ h=>h) (Or.inl ⟨by rfl,?_⟩) ?_ ?_
     rotate_left
     ·intro w'
      go_simp
      with_reducible rfl
     rotate_left
     ·simp only [Act.put,List.setIfInBounds_toArray,List.set_cons_zero,List.set_cons_succ,i64_w,i32_w]
      rfl
     refine pure_ (i:=29) (N:=some 119) (v:=?_) (a':=?_) #[true,true,true,true,true,true,true,true,true,true,true,true,true,true,true,true,true,true,true,true,true,true,true,true,true,true,true,true,true,true,false,false,false,false,false,false,false,false,false,false,false,false,false,false] rfl rfl (any_of HT_.out (by kernel_rfl)) (fun _ _ _ h=>h) (Or.inl ⟨by rfl,?_⟩) ?_ ?_
     rotate_left
     ·intro w'
      go_simp
      with_reducible rfl
     rotate_left
     ·simp only [Act.put,List.setIfInBounds_toArray,List.set_cons_zero,List.set_cons_succ,i64_w,i32_w]
      rfl
     refine pure_ (i:=30) (N:=some 120) (v:=?_) (a':=?_) #[true,true,true,true,true,true,true,true,true,true,true,true,true,true,true,true,true,true,true,true,true,true,true,true,true,true,true,true,true,true,true,false,false,false,false,false,false,false,false,false,false,false,false,false] rfl rfl (any_of HT_.out (by kernel_rfl)) (fun _ _ _ h=>h) (Or.inl ⟨by rfl,?_⟩) ?_ ?_
     rotate_left
     ·intro w'
      go_simp
      with_reducible rfl
     rotate_left
     ·simp only [Act.put,List.setIfInBounds_toArray,List.set_cons_zero,List.set_cons_succ,i64_w,i32_w]
      rfl
     refine take_ (i:=31) (N:=some 121) (v:=?_) (a':=?_) #[true,true,true,true,true,true,true,true,true,true,true,true,true,true,true,true,true,true,true,true,true,true,true,true,true,true,true,true,true,true,true,true,false,false,false,false,false,false,false,false,false,false,false,false] rfl rfl (take_ofW HT_.out HW_.out (by kernel_rfl)) (fun _ _ _ h=>h) (Or.inl ⟨by rfl,?_⟩) hHeld ?_ ?_
     rotate_left
     ·rintro w' ⟨s0,s1,s2,s3,s4,s5,s6,s7,s8,s9,s10,s11⟩
      go_simp
      with_reducible rfl
     rotate_left
     ·simp only [Act.put,List.setIfInBounds_toArray,List.set_cons_zero,List.set_cons_succ,i64_w,i32_w]
      rfl
     refine one_ (i:=32) (N:=some 122) #[true,true,true,true,true,true,true,true,true,true,true,true,true,true,true,true,true,true,true,true,true,true,true,true,true,true,true,true,true,true,true,true,true,false,false,false,false,false,false,false,false,false,false,false] rfl rfl (one_of HT_.out (by kernel_rfl)) (by decide) (fun K hK=>?_)
     refine goes_ Tryz.func35 (by kernel_rfl) rfl #[.agg #[.int .i64 d.f0,.string d.f1,.string d.f2,.slice A3 d.f3.length c3,.string d.f4,.string d.f5],.agg #[.int .i64 d.f0,.string d.f1,.string d.f2,.slice Ae d.f3.length ce,.string d.f4,.string d.f5]] (by rfl) rfl rfl (by (try simp only [List.map_toArray,List.map_cons,List.map_nil]);first | done | rfl | (simp only [List.length_drop,List.length_take];rfl)) ?_
     with_reducible refine (r07_Same.calls k _ _ _ _ _ _ _ _ _ _ _ _ _ _ _ _ true _ (Kd.C_below HC3.out HB.out) HL3.out (Kd.C_below HCE.out HB.out) HLE.out HRSD.out).mono ?_
     rintro er w32 ⟨rfl,hb_⟩
     have n0_:=As.mk (bS HB.out hb_)
     clear HB hb_
     have HB:=n0_
     clear n0_
     refine ⟨_,rfl,?_⟩
     refine hK.out _ _ ⟨(pC HB.out Q0.out),(pC HB.out Q1.out),(pC HB.out Q2.out),(pC HB.out Q3.out),(pC HB.out Q4.out),(pC HB.out Q5.out),(pC HB.out Q6.out),(pC HB.out Q7.out),(pC HB.out Q8.out),(pC HB.out Q9.out),(pC HB.out Q10.out),(pC HB.out Q11.out)⟩ (fun hHeld=>?_)
     clear hK K
     refine norm_ (a':=?_) ?_ ?_
     rotate_left
     ·show Act.put _ (some 122) _ = _
      simp only [Act.put,List.setIfInBounds_toArray,List.set_cons_zero,List.set_cons_succ,i64_w,i32_w]
      rfl
     refine pure_ (i:=33) (N:=some 123) (v:=?_) (a':=?_) #[true,true,true,true,true,true,true,true,true,true,true,true,true,true,true,true,true,true,true,true,true,true,true,true,true,true,true,true,true,true,true,true,true,true,false,false,false,false,false,false,false,false,false,false] rfl rfl (any_of HT_.out (by kernel_rfl)) (fun _ _ _ h=>h) (Or.inl ⟨by rfl,?_⟩) ?_ ?_
     rotate_left
     ·intro w'
      go_simp
      with_reducible rfl
     rotate_left
     ·simp only [Act.put,List.setIfInBounds_toArray,List.set_cons_zero,List.set_cons_succ,i64_w,i32_w]
      rfl
     refine pure_ (i:=34) (N:=some 124) (v:=?_) (a':=?_) #[true,true,true,true,true,true,true,true,true,true,true,true,true,true,true,true,true,true,true,true,true,true,true,true,true,true,true,true,true,true,true,true,true,true,true,false,false,false,false,false,false,false,false,false] rfl rfl (any_of HT_.out (by kernel_rfl)) (fun _ _ _ h=>h) (Or.inl ⟨by rfl,?_⟩) ?_ ?_
     rotate_left
     ·intro w'
      go_simp
      with_reducible rfl
     rotate_left
     ·simp only [Act.put,List.setIfInBounds_toArray,List.set_cons_zero,List.set_cons_succ,i64_w,i32_w]
      rfl
     refine pure_ (i:=35) (N:=some 125) (v:=?_) (a':=?_) #[true,true,true,true,true,true,true,true,true,true,true,true,true,true,true,true,true,true,true,true,true,true,true,true,true,true,true,true,true,true,true,true,true,true,true,true,false,false,false,false,false,false,false,false] rfl rfl (any_of HT_.out (by kernel_rfl)) (fun _ _ _ h=>h) (Or.inl ⟨by rfl,?_⟩) ?_ ?_
     rotate_left
     ·intro w'
      go_simp
      with_reducible rfl
     rotate_left
     ·simp only [Act.put,List.setIfInBounds_toArray,List.set_cons_zero,List.set_cons_succ,i64_w,i32_w]
      rfl
     refine pure_ (i:=36) (N:=some 126) (v:=?_) (a':=?_) #[true,true,true,true,true,true,true,true,true,true,true,true,true,true,true,true,true,true,true,true,true,true,true,true,true,true,true,true,true,true,true,true,true,true,true,true,true,false,false,false,false,false,false,false] rfl rfl (any_of HT_.out (by kernel_rfl)) (fun _ _ _ h=>h) (Or.inl ⟨by rfl,?_⟩) ?_ ?_
     rotate_left
     ·intro w'
      go_simp
      with_reducible rfl
     rotate_left
     ·simp only [Act.put,List.setIfInBounds_toArray,List.set_cons_zero,List.set_cons_succ,i64_w,i32_w]
      rfl
     refine pure_ (i:=39) (N:=some 129) (v:=?_) (a':=?_) #[true,true,true,true,true,true,true,true,true,true,true,true,true,true,true,true,true,true,true,true,true,true,true,true,true,true,true,true,true,true,true,true,true,true,true,true,true,false,false,true,false,false,false,false] rfl rfl (any_of HT_.out (by kernel_rfl)) (fun _ _ _ h=>h) (Or.inl ⟨by rfl,?_⟩) ?_ ?_
     rotate_left
     ·intro w'
      go_simp
      with_reducible rfl
     rotate_left
     ·simp only [Act.put,List.setIfInBounds_toArray,List.set_cons_zero,List.set_cons_succ,i64_w,i32_w]
      rfl
     refine one_ (i:=37) (N:=some 127) #[true,true,true,true,true,true,true,true,true,true,true,true,true,true,true,true,true,true,true,true,true,true,true,true,true,true,true,true,true,true,true,true,true,true,true,true,true,true,false,true,false,false,false,false] rfl rfl (one_of HT_.out (by kernel_rfl)) (by decide) (fun K hK=>?_)
     refine goes_ Tryz.func36 (by kernel_rfl) rfl #[.pointer (some ⟨gs,0,none⟩)] (by rfl) rfl rfl (by (try simp only [List.map_toArray,List.map_cons,List.map_nil]);first | done | rfl | (simp only [List.length_drop,List.length_take];rfl)) ?_
     with_reducible refine (write_same key k _ (some ⟨gs,0,none⟩) out (HSN.out.below HB.out) HOL5.out HWD.out).mono ?_
     rintro er w37 ⟨A7,c7,rfl,hl7_,hC7_,hb_⟩
     rw [HOB.out] at hC7_ hl7_
     rw [HOB.out]
     have HC7:=As.mk hC7_
     clear hC7_ hl7_
     have n0_:=As.mk (bS HB.out hb_)
     clear HB hb_
     have HB:=n0_
     clear n0_
     refine ⟨_,rfl,?_⟩
     refine hK.out _ _ ⟨(pC HB.out Q0.out),(pC HB.out Q1.out),(pC HB.out Q2.out),(pC HB.out Q3.out),(pC HB.out Q4.out),(pC HB.out Q5.out),(pC HB.out Q6.out),(pC HB.out Q7.out),(pC HB.out Q8.out),(pC HB.out Q9.out),(pC HB.out Q10.out),(pC HB.out Q11.out)⟩ (fun hHeld=>?_)
     clear hK K
     refine norm_ (a':=?_) ?_ ?_
     rotate_left
     ·show Act.put _ (some 127) _ = _
      simp only [Act.put,List.setIfInBounds_toArray,List.set_cons_zero,List.set_cons_succ,i64_w,i32_w]
      rfl
     refine two_ (i:=38) (j:=40) (Ni:=some 128) (Nj:=some 130) #[true,true,true,true,true,true,true,true,true,true,true,true,true,true,true,true,true,true,true,true,true,true,true,true,true,true,true,true,true,true,true,true,true,true,true,true,true,true,true,true,false,false,false,false] #[true,true,true,true,true,true,true,true,true,true,true,true,true,true,true,true,true,true,true,true,true,true,true,true,true,true,true,true,true,true,true,true,true,true,true,true,true,true,false,true,true,false,false,false] rfl rfl rfl rfl (two_of HT_.out (by kernel_rfl)) (by decide) (by decide) (fun K hK=>?_) (fun K hK=>?_)
     ·have hcv:=Kd.C_string (P:=Tryz.prog) (c:=c7) Tryz.underlying54 Tryz.underlying5 Tryz.underlying9 HC7.out
      refine value_ (w1:=?_) (v:=?_) (by rfl) rfl ?_ ?_
      rotate_left 2
      ·go_simp
       constructor
       ·rfl
       ·rfl
      refine hK.out _ _ ⟨(pC HB.out Q0.out),(pC HB.out Q1.out),(pC HB.out Q2.out),(pC HB.out Q3.out),(pC HB.out Q4.out),(pC HB.out Q5.out),(pC HB.out Q6.out),(pC HB.out Q7.out),(pC HB.out Q8.out),(pC HB.out Q9.out),(pC HB.out Q10.out),(pC HB.out Q11.out)⟩ (fun hHeld=>?_)
      clear hK K
      refine norm_ (a':=?_) ?_ ?_
      rotate_left
      ·show Act.put _ (some 128) _ = _
       simp only [Act.put,List.setIfInBounds_toArray,List.set_cons_zero,List.set_cons_succ,i64_w,i32_w]
       rfl
      clear hcv
      refine one_ (i:=40) (N:=some 130) #[true,true,true,true,true,true,true,true,true,true,true,true,true,true,true,true,true,true,true,true,true,true,true,true,true,true,true,true,true,true,true,true,true,true,true,true,true,true,true,true,true,false,false,false] rfl rfl (one_of HT_.out (by kernel_rfl)) (by decide) (fun K hK=>?_)
      refine goes_ Tryz.func37 (by kernel_rfl) rfl #[.slice (some ad) out.length cw] (by rfl) rfl rfl (by (try simp only [List.map_toArray,List.map_cons,List.map_nil]);first | done | rfl | (simp only [List.length_drop,List.length_take];rfl)) ?_
      with_reducible refine (r08_Write.calls k2 (some ad) cw out sX _ (VC (Kd.V_below HV.out HB.out)).1 HCW.out HRW.out).mono ?_
      rintro er w40 ⟨rfl,hb_⟩
      have n7_:=As.mk (Kd.C_below HC7.out hb_)
      clear HC7
      have HC7:=n7_
      clear n7_
      have n0_:=As.mk (bS HB.out hb_)
      clear HB hb_
      have HB:=n0_
      clear n0_
      refine ⟨_,rfl,?_⟩
      refine hK.out _ _ ⟨(pC HB.out Q0.out),(pC HB.out Q1.out),(pC HB.out Q2.out),(pC HB.out Q3.out),(pC HB.out Q4.out),(pC HB.out Q5.out),(pC HB.out Q6.out),(pC HB.out Q7.out),(pC HB.out Q8.out),(pC HB.out Q9.out),(pC HB.out Q10.out),(pC HB.out Q11.out)⟩ (fun hHeld=>?_)
      clear hK K
      refine norm_ (a':=?_) ?_ ?_
      rotate_left
      ·show Act.put _ (some 130) _ = _
       simp only [Act.put,List.setIfInBounds_toArray,List.set_cons_zero,List.set_cons_succ,i64_w,i32_w]
       rfl
      refine pure_ (i:=41) (N:=some 131) (v:=?_) (a':=?_) #[true,true,true,true,true,true,true,true,true,true,true,true,true,true,true,true,true,true,true,true,true,true,true,true,true,true,true,true,true,true,true,true,true,true,true,true,true,true,true,true,true,true,false,false] rfl rfl (any_of HT_.out (by kernel_rfl)) (fun _ _ _ h=>h) (Or.inl ⟨by rfl,?_⟩) ?_ ?_
      rotate_left
      ·intro w'
       go_simp
       with_reducible rfl
      rotate_left
      ·simp only [Act.put,List.setIfInBounds_toArray,List.set_cons_zero,List.set_cons_succ,i64_w,i32_w]
       rfl
      refine pure_ (i:=42) (N:=some 132) (v:=?_) (a':=?_) #[true,true,true,true,true,true,true,true,true,true,true,true,true,true,true,true,true,true,true,true,true,true,true,true,true,true,true,true,true,true,true,true,true,true,true,true,true,true,true,true,true,true,true,false] rfl rfl (any_of HT_.out (by kernel_rfl)) (fun _ _ _ h=>h) (Or.inl ⟨by rfl,?_⟩) ?_ ?_
      rotate_left
      ·intro w'
       go_simp
       with_reducible rfl
      rotate_left
      ·simp only [Act.put,List.setIfInBounds_toArray,List.set_cons_zero,List.set_cons_succ,i64_w,i32_w]
       rfl
      refine pure_ (i:=43) (N:=some 6) (v:=?_) (a':=?_) #[true,true,true,true,true,true,true,true,true,true,true,true,true,true,true,true,true,true,true,true,true,true,true,true,true,true,true,true,true,true,true,true,true,true,true,true,true,true,true,true,true,true,true,true] rfl rfl (any_of HT_.out (by kernel_rfl)) (fun _ _ _ h=>h) (Or.inl ⟨by rfl,?_⟩) ?_ ?_
      rotate_left
      ·intro w'
       go_simp
       with_reducible rfl
      rotate_left
      ·simp only [Act.put,List.setIfInBounds_toArray,List.set_cons_zero,List.set_cons_succ,i64_w,i32_w]
       rfl
      refine done_ (done_of HT_.out (by kernel_rfl)) ?_
      go_wp2_with (fail)
      go_ret
      exact ⟨rfl,bS HBW.out (bS HB19.out HB.out)⟩
     ·refine goes_ Tryz.func37 (by kernel_rfl) rfl #[.slice (some ad) out.length cw] (by rfl) rfl rfl (by (try simp only [List.map_toArray,List.map_cons,List.map_nil]);first | done | rfl | (simp only [List.length_drop,List.length_take];rfl)) ?_
      with_reducible refine (r08_Write.calls k2 (some ad) cw out sX _ (VC (Kd.V_below HV.out HB.out)).1 HCW.out HRW.out).mono ?_
      rintro er w40 ⟨rfl,hb_⟩
      have n7_:=As.mk (Kd.C_below HC7.out hb_)
      clear HC7
      have HC7:=n7_
      clear n7_
      have n0_:=As.mk (bS HB.out hb_)
      clear HB hb_
      have HB:=n0_
      clear n0_
      refine ⟨_,rfl,?_⟩
      refine hK.out _ _ ⟨(pC HB.out Q0.out),(pC HB.out Q1.out),(pC HB.out Q2.out),(pC HB.out Q3.out),(pC HB.out Q4.out),(pC HB.out Q5.out),(pC HB.out Q6.out),(pC HB.out Q7.out),(pC HB.out Q8.out),(pC HB.out Q9.out),(pC HB.out Q10.out),(pC HB.out Q11.out)⟩ (fun hHeld=>?_)
      clear hK K
      refine norm_ (a':=?_) ?_ ?_
      rotate_left
      ·show Act.put _ (some 130) _ = _
       simp only [Act.put,List.setIfInBounds_toArray,List.set_cons_zero,List.set_cons_succ,i64_w,i32_w]
       rfl
      have hcv:=Kd.C_string (P:=Tryz.prog) (c:=c7) Tryz.underlying54 Tryz.underlying5 Tryz.underlying9 HC7.out
      refine one_ (i:=38) (N:=some 128) #[true,true,true,true,true,true,true,true,true,true,true,true,true,true,true,true,true,true,true,true,true,true,true,true,true,true,true,true,true,true,true,true,true,true,true,true,true,true,true,true,true,false,false,false] rfl rfl (one_of HT_.out (by kernel_rfl)) (by decide) (fun K hK=>?_)
      refine value_ (w1:=?_) (v:=?_) (by rfl) rfl ?_ ?_
      rotate_left 2
      ·go_simp
       constructor
       ·rfl
       ·rfl
      refine hK.out _ _ ⟨(pC HB.out Q0.out),(pC HB.out Q1.out),(pC HB.out Q2.out),(pC HB.out Q3.out),(pC HB.out Q4.out),(pC HB.out Q5.out),(pC HB.out Q6.out),(pC HB.out Q7.out),(pC HB.out Q8.out),(pC HB.out Q9.out),(pC HB.out Q10.out),(pC HB.out Q11.out)⟩ (fun hHeld=>?_)
      clear hK K
      refine norm_ (a':=?_) ?_ ?_
      rotate_left
      ·show Act.put _ (some 128) _ = _
       simp only [Act.put,List.setIfInBounds_toArray,List.set_cons_zero,List.set_cons_succ,i64_w,i32_w]
       rfl
      clear hcv
      refine pure_ (i:=41) (N:=some 131) (v:=?_) (a':=?_) #[true,true,true,true,true,true,true,true,true,true,true,true,true,true,true,true,true,true,true,true,true,true,true,true,true,true,true,true,true,true,true,true,true,true,true,true,true,true,true,true,true,true,false,false] rfl rfl (any_of HT_.out (by kernel_rfl)) (fun _ _ _ h=>h) (Or.inl ⟨by rfl,?_⟩) ?_ ?_
      rotate_left
      ·intro w'
       go_simp
       with_reducible rfl
      rotate_left
      ·simp only [Act.put,List.setIfInBounds_toArray,List.set_cons_zero,List.set_cons_succ,i64_w,i32_w]
       rfl
      refine pure_ (i:=42) (N:=some 132) (v:=?_) (a':=?_) #[true,true,true,true,true,true,true,true,true,true,true,true,true,true,true,true,true,true,true,true,true,true,true,true,true,true,true,true,true,true,true,true,true,true,true,true,true,true,true,true,true,true,true,false] rfl rfl (any_of HT_.out (by kernel_rfl)) (fun _ _ _ h=>h) (Or.inl ⟨by rfl,?_⟩) ?_ ?_
      rotate_left
      ·intro w'
       go_simp
       with_reducible rfl
      rotate_left
      ·simp only [Act.put,List.setIfInBounds_toArray,List.set_cons_zero,List.set_cons_succ,i64_w,i32_w]
       rfl
      refine pure_ (i:=43) (N:=some 6) (v:=?_) (a':=?_) #[true,true,true,true,true,true,true,true,true,true,true,true,true,true,true,true,true,true,true,true,true,true,true,true,true,true,true,true,true,true,true,true,true,true,true,true,true,true,true,true,true,true,true,true] rfl rfl (any_of HT_.out (by kernel_rfl)) (fun _ _ _ h=>h) (Or.inl ⟨by rfl,?_⟩) ?_ ?_
      rotate_left
      ·intro w'
       go_simp
       with_reducible rfl
      rotate_left
      ·simp only [Act.put,List.setIfInBounds_toArray,List.set_cons_zero,List.set_cons_succ,i64_w,i32_w]
       rfl
      refine done_ (done_of HT_.out (by kernel_rfl)) ?_
      go_wp2_with (fail)
      go_ret
      exact ⟨rfl,bS HBW.out (bS HB19.out HB.out)⟩
end Go.Proofs.YtmlebgikdegjjaaGreatDoor.Hd
