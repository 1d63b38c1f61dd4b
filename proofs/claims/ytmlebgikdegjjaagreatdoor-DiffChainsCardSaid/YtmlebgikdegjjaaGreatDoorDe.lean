/- Chapter 09: the document's example. -/
import Derived.Test.YtmlebgikdegjjaaGreatDoorDd
import Derived.Test.YtmlebgikdegjjaaGreatDoorUf
set_option maxHeartbeats 16000000
set_option maxRecDepth 100000
namespace Go.Proofs.YtmlebgikdegjjaaGreatDoor.Hd
open Go.Maps Go.RowKit Go.Proofs.YtmlebgikdegjjaaGreatDoorW.PrintWords Go.Proofs.YtmlebgikdegjjaaGreatDoorW.PrintLast Go.Proofs.YtmlebgikdegjjaaGreatDoorW.PrintMore Go.Proofs.YtmlebgikdegjjaaGreatDoor.PAll
attribute [local go_sem] max2_int min2_int max_two min_two max_three min_three max_four min_four
set_option linter.unusedVariables false
set_option linter.unusedSimpArgs false
theorem Sn_nil (w : World) : Sn w (.pointer none) (.map []):=Or.inl ⟨rfl,rfl⟩
def exN : DataW S34:=(newGo exKey [ex1] (.map [])).1
theorem exN_new : (newGo exKey [ex1] (.map [])).2 = 0:=by kernel_rfl
theorem exN_size : Maps.size exN = 1:=by kernel_rfl
theorem exN_vals : valsM exN = [ex1]:=by kernel_rfl
def exSm (x y : S34) : Bool:=(def_Same.f 70 x.f0 x.f1 x.f2 x.f3 x.f4 x.f5 y.f0 y.f1 y.f2 y.f3 y.f4 y.f5).getD false
theorem exSm_val : def_Same.f 70 ex1.f0 ex1.f1 ex1.f2 ex1.f3 ex1.f4 ex1.f5 ex1.f0 ex1.f1 ex1.f2 ex1.f3 ex1.f4 ex1.f5 = some (exSm ex1 ex1):=by kernel_rfl
theorem ex_of1 : ofG exSm (.map []) exN (insAll exKey (valsM exN) (insAll exKey (valsM (.map [])) [])) = [⟨⟨#[65]⟩,[],[ex1]⟩]:=by kernel_rfl
theorem ex_of2 : ofG exSm exN exN (insAll exKey (valsM exN) (insAll exKey (valsM exN) [])) = []:=by kernel_rfl
theorem awake09_calls (w : World) : Calls Tryz.prog 26 #[] w fun e w'=>e = .returned (.bool true) ∧ Below w.heap.size w w':=by
 have hu34:=Tryz.underlying34
 have hu82:=Tryz.underlying82
 have HB:=As.mk (Below.refl w.heap.size w)
 obtain ⟨zs,hzs⟩ : ∃ zs,zs = [ex1]:=⟨_,rfl⟩
 have HZS:=As.mk hzs
 have HZL:=As.mk (show zs.length ≤ 400 by rw [hzs];decide)
 have HZK:=As.mk (show ∀ d ∈ zs,def_Key.f 70 d.f0 d.f1 d.f2 d.f3 d.f4 d.f5 = some (exKey d) ∧ (exKey d).size ≤ 1000000 ∧ d.f3.length ≤ 1000000 from fun d hd=>by
  rw [hzs] at hd
  rw [List.mem_singleton.1 hd]
  exact ⟨exKey1.1,exKey1.2,Nat.zero_le _⟩)
 have HNG:=As.mk (show newGo exKey zs (.map []) = (exN,0) by rw [hzs];exact Prod.ext rfl exN_new)
 have HZ:=As.mk (show Maps.size exN ≤ 500 by rw [exN_size];decide)
 have HV:=As.mk (show ∀ d ∈ valsM exN,d.f3.length ≤ 1000000 from fun d hd=>by
  rw [exN_vals] at hd
  rw [List.mem_singleton.1 hd]
  exact Nat.zero_le _)
 have HK:=As.mk (show ∀ d ∈ valsM exN,def_Key.f 70 d.f0 d.f1 d.f2 d.f3 d.f4 d.f5 = some (exKey d) ∧ (exKey d).size ≤ 1000000 from fun d hd=>by
  rw [exN_vals] at hd
  rw [List.mem_singleton.1 hd]
  exact exKey1)
 have HSM:=As.mk (show ∀ x ∈ valsM exN,∀ y ∈ valsM exN,def_Same.f 70 x.f0 x.f1 x.f2 x.f3 x.f4 x.f5 y.f0 y.f1 y.f2 y.f3 y.f4 y.f5 = some (exSm x y) from fun x hx y hy=>by
  rw [exN_vals] at hx hy
  rw [List.mem_singleton.1 hx,List.mem_singleton.1 hy]
  exact exSm_val)
 have HZ0:=As.mk (show Maps.size (.map [] : DataW S34) ≤ 500 from Nat.zero_le _)
 have HV0:=As.mk (show ∀ d ∈ valsM (.map []),d.f3.length ≤ 1000000 from fun d hd=>by cases hd)
 have HK0:=As.mk (show ∀ d ∈ valsM (.map []),def_Key.f 70 d.f0 d.f1 d.f2 d.f3 d.f4 d.f5 = some (exKey d) ∧ (exKey d).size ≤ 1000000 from fun d hd=>by cases hd)
 have HS0:=As.mk (show ∀ x ∈ valsM (.map []),∀ y ∈ valsM exN,def_Same.f 70 x.f0 x.f1 x.f2 x.f3 x.f4 x.f5 y.f0 y.f1 y.f2 y.f3 y.f4 y.f5 = some (exSm x y) from fun x hx=>by cases hx)
 clear hzs
 go_enter Tryz.func26,Tryz.ntmps26
 go_wp2_with (first | ((with_reducible refine gate_dst (N:=8) rfl ?_);refine Kd.N_lit k34 (w0:=w) w.heap.size 34 ?hg (N':=8) ?hd (xs:=[ex1]) (inner:=[.int .i64 1,.string ⟨#[65]⟩,.string ⟨#[79,98,106,101,99,116]⟩,.slice none 0 0,.string ⟨#[]⟩,.string ⟨#[]⟩]) (ok:=fun _=>True) (okp:=fun _=>True) ?hr ?hp (fun _ hk=>hk) trivial (by repeat (first | (with_reducible first | exact HB.out | apply bA | apply bN | apply bD) | exact HB.out)) ((by repeat (first | (with_reducible first | exact HB.out | apply bA | apply bN | apply bD) | exact HB.out)) : Below w.heap.size w _).size (by simp) ?_;(case hd=>rfl);(case hg=>rfl);(case hr=>first | (go_simp;done) | (go_simp;rfl));(case hp=>exact Reps.c6 (show Kd.FK k34 _ _ ex1 [.int .i64 1,.string ⟨#[65]⟩,.string ⟨#[79,98,106,101,99,116]⟩,.slice none 0 0,.string ⟨#[]⟩,.string ⟨#[]⟩] from fun W' _=>k34_mk W' ex1 (Nat.le_refl _) (Kd.C_nil _ _)) (Reps.none _ _));intro v6 w6 ho hb_ _ _;rw [← HZS.out] at ho;obtain ⟨Az,cz,rfl,hlz,hCz⟩:=Kd.N_reads ho;have HLZ:=As.mk hlz;have HCZ:=As.mk hCz;have n0_:=As.mk hb_;clear HB hb_ ho hlz hCz;have HB:=n0_;have HB6:=As.mk (Below.refl w6.heap.size w6);clear n0_) | (go_at_call 17;(with_reducible refine (new_good exKey 70 Az cz zs _ exN (Kd.C_below HCZ.out (by repeat (first | (with_reducible first | exact HB6.out | apply bA | apply bN | apply bD) | exact HB6.out))) HLZ.out HZL.out HZK.out HNG.out).mono ?_);rintro e w7 ⟨g,b_,rfl,hs_,_,hb_⟩;have HS:=As.mk (show Sn w7 (.pointer (some ⟨g,0,none⟩)) exN from Or.inr hs_.rd);have n0_:=As.mk (bS (by repeat (first | (with_reducible first | exact HB.out | apply bA | apply bN | apply bD) | exact HB.out)) hb_);clear HB hb_ hs_ HB6;have HB:=n0_;clear n0_) | (go_at_call 55;(with_reducible refine (of_calls exSm exKey 70 _ none (some ⟨g,0,none⟩) (.map []) exN (Sn_nil _) HS.out HZ0.out HZ.out HV0.out HV.out HK0.out HK.out HS0.out).mono ?_);rintro e w8 ⟨vp,rfl,hp_,hb_⟩;rw [ex_of1] at hp_;obtain ⟨gp,cp,rfl,_,_,_⟩:=Kd.N_form hp_ (by decide);obtain ⟨cs_,_,hF_,hcc_,_⟩:=Kd.N_elem hp_ z82 0 (by decide) (by decide);obtain ⟨A1,c1,A2,c2,rfl,_,_,_,_⟩:=k82_openF hF_;have q0 : w8.cell? ⟨gp,0,none⟩ = some (.string ⟨#[65]⟩):=hcc_ 0 _ rfl;have q1 : w8.cell? ⟨gp,1,none⟩ = some (.slice A1 0 c1):=hcc_ 1 _ rfl;have q2 : w8.cell? ⟨gp,2,none⟩ = some (.slice A2 1 c2):=hcc_ 2 _ rfl;clear hF_ hcc_;have n0_:=As.mk (bS (by repeat (first | (with_reducible first | exact HB.out | apply bA | apply bN | apply bD) | exact HB.out)) hb_);have n1_:=As.mk (HS.out.below hb_);clear HB HS hb_ hp_;have HB:=n0_;have HS:=n1_;clear n0_ n1_) | (go_at_call 55;(with_reducible refine (of_calls exSm exKey 70 _ (some ⟨g,0,none⟩) (some ⟨g,0,none⟩) exN exN HS.out HS.out HZ.out HZ.out HV.out HV.out HK.out HK.out HSM.out).mono ?_);rintro e w9 ⟨vq,rfl,hq_,hb_⟩;rw [ex_of2] at hq_;obtain ⟨Aq,cq,rfl⟩:=Kd.N_slice hq_;have n0_:=As.mk (bS (by repeat (first | (with_reducible first | exact HB.out | apply bA | apply bN | apply bD) | exact HB.out)) hb_);clear HB hb_ hq_;have HB:=n0_;clear n0_))
 go_ret
 exact ⟨rfl,(by repeat (first | (with_reducible first | exact HB.out | apply bA | apply bN | apply bD) | exact HB.out))⟩
end Go.Proofs.YtmlebgikdegjjaaGreatDoor.Hd
