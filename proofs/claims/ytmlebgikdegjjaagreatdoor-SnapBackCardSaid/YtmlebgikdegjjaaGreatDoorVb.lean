/- SnapBack, walked. -/
import Derived.Test.YtmlebgikdegjjaaGreatDoorVa
import Derived.Test.YtmlebgikdegjjaaGreatDoorPAllx3
set_option maxHeartbeats 16000000
set_option maxRecDepth 100000
namespace Go.Proofs.YtmlebgikdegjjaaGreatDoor.Hd
open Go.Maps Go.RowKit Go.Proofs.YtmlebgikdegjjaaGreatDoorW.PrintWords Go.Proofs.YtmlebgikdegjjaaGreatDoorW.PrintLast Go.Proofs.YtmlebgikdegjjaaGreatDoorW.PrintMore Go.Proofs.YtmlebgikdegjjaaGreatDoor.PAll
attribute [local go_sem] max2_int min2_int max_two min_two max_three min_three max_four min_four
set_option linter.unusedVariables false
set_option linter.unusedSimpArgs false
theorem back_few1 (k : Nat) (key : S34 → ByteArray) (A0 : Option Addr) (c0 : Nat) (l : List S34) (A1 : Option Addr) (c1 : Nat) (m : List S34) (w : World) (hr0 : Kd.C k34 w A0 l.length l) (hc0 : l.length ≤ c0) (hr1 : Kd.C k34 w A1 m.length m) (hc1 : m.length ≤ c1) (h1 : r07_Few.f k l 10 = some false) (b2 : Bool) (h2 : r07_Few.f k m 10 = some b2) :
  Calls Tryz.prog 14 #[.slice A0 l.length c0,.slice A1 m.length c1] w fun e w'=>e = .returned (.bool true) ∧ Below w.heap.size w w':=by
 have HC0:=As.mk hc0
 have HR0:=As.mk hr0
 have HC1:=As.mk hc1
 have HR1:=As.mk hr1
 have HF1:=As.mk h1
 have HF2:=As.mk h2
 have HB:=As.mk (Below.refl w.heap.size w)
 clear hc0 hr0 hc1 hr1 h1 h2
 go_enter Tryz.func14,Tryz.ntmps14
 go_wp2_with (first | (go_at_call 15;(with_reducible refine (awake_calls _).mono ?_);rintro e wa ⟨rfl,hb_⟩;have n0_:=As.mk (bS (by repeat (first | (with_reducible first | exact HB.out | apply bA | apply bN | apply bD) | exact HB.out)) hb_);clear HB hb_;have HB:=n0_;clear n0_) | (go_at_call 16;(with_reducible refine (r07_Few.calls k A0 c0 l 10 _ _ ?s1 HC0.out HF1.out).mono ?_);(case s1=>exact Kd.C_below HR0.out (by repeat (first | (with_reducible first | exact HB.out | apply bA | apply bN | apply bD) | exact HB.out)));rintro e wb ⟨rfl,hb_⟩;have n0_:=As.mk (bS (by repeat (first | (with_reducible first | exact HB.out | apply bA | apply bN | apply bD) | exact HB.out)) hb_);clear HB hb_;have HB:=n0_;clear n0_) | (go_at_call 16;(with_reducible refine (r07_Few.calls k A1 c1 m 10 _ _ ?s1 HC1.out HF2.out).mono ?_);(case s1=>exact Kd.C_below HR1.out (by repeat (first | (with_reducible first | exact HB.out | apply bA | apply bN | apply bD) | exact HB.out)));rintro e wc ⟨rfl,hb_⟩;have n0_:=As.mk (bS (by repeat (first | (with_reducible first | exact HB.out | apply bA | apply bN | apply bD) | exact HB.out)) hb_);clear HB hb_;have HB:=n0_;clear n0_))
 go_ret
 exact ⟨rfl,(by repeat (first | (with_reducible first | exact HB.out | apply bA | apply bN | apply bD) | exact HB.out))⟩
theorem back_few2 (k : Nat) (key : S34 → ByteArray) (A0 : Option Addr) (c0 : Nat) (l : List S34) (A1 : Option Addr) (c1 : Nat) (m : List S34) (w : World) (hr0 : Kd.C k34 w A0 l.length l) (hc0 : l.length ≤ c0) (hr1 : Kd.C k34 w A1 m.length m) (hc1 : m.length ≤ c1) (h1 : r07_Few.f k l 10 = some true) (h2 : r07_Few.f k m 10 = some false) :
  Calls Tryz.prog 14 #[.slice A0 l.length c0,.slice A1 m.length c1] w fun e w'=>e = .returned (.bool true) ∧ Below w.heap.size w w':=by
 have HC0:=As.mk hc0
 have HR0:=As.mk hr0
 have HC1:=As.mk hc1
 have HR1:=As.mk hr1
 have HF1:=As.mk h1
 have HF2:=As.mk h2
 have HB:=As.mk (Below.refl w.heap.size w)
 clear hc0 hr0 hc1 hr1 h1 h2
 go_enter Tryz.func14,Tryz.ntmps14
 go_wp2_with (first | (go_at_call 15;(with_reducible refine (awake_calls _).mono ?_);rintro e wa ⟨rfl,hb_⟩;have n0_:=As.mk (bS (by repeat (first | (with_reducible first | exact HB.out | apply bA | apply bN | apply bD) | exact HB.out)) hb_);clear HB hb_;have HB:=n0_;clear n0_) | (go_at_call 16;(with_reducible refine (r07_Few.calls k A0 c0 l 10 _ _ ?s1 HC0.out HF1.out).mono ?_);(case s1=>exact Kd.C_below HR0.out (by repeat (first | (with_reducible first | exact HB.out | apply bA | apply bN | apply bD) | exact HB.out)));rintro e wb ⟨rfl,hb_⟩;have n0_:=As.mk (bS (by repeat (first | (with_reducible first | exact HB.out | apply bA | apply bN | apply bD) | exact HB.out)) hb_);clear HB hb_;have HB:=n0_;clear n0_) | (go_at_call 16;(with_reducible refine (r07_Few.calls k A1 c1 m 10 _ _ ?s1 HC1.out HF2.out).mono ?_);(case s1=>exact Kd.C_below HR1.out (by repeat (first | (with_reducible first | exact HB.out | apply bA | apply bN | apply bD) | exact HB.out)));rintro e wc ⟨rfl,hb_⟩;have n0_:=As.mk (bS (by repeat (first | (with_reducible first | exact HB.out | apply bA | apply bN | apply bD) | exact HB.out)) hb_);clear HB hb_;have HB:=n0_;clear n0_))
 go_ret
 exact ⟨rfl,(by repeat (first | (with_reducible first | exact HB.out | apply bA | apply bN | apply bD) | exact HB.out))⟩
theorem back_bad1 (k : Nat) (key : S34 → ByteArray) (A0 : Option Addr) (c0 : Nat) (l : List S34) (A1 : Option Addr) (c1 : Nat) (m : List S34) (w : World) (hr0 : Kd.C k34 w A0 l.length l) (hc0 : l.length ≤ c0) (hr1 : Kd.C k34 w A1 m.length m) (hc1 : m.length ≤ c1) (h1 : r07_Few.f k l 10 = some true) (h2 : r07_Few.f k m 10 = some true) (hln : l.length ≤ 10) (hmn : m.length ≤ 10) (hkey : ∀ d ∈ l,def_Key.f k d.f0 d.f1 d.f2 d.f3 d.f4 d.f5 = some (key d) ∧ (key d).size ≤ 1000000 ∧ d.f3.length ≤ 1000000) (hmey : ∀ d ∈ m,def_Key.f k d.f0 d.f1 d.f2 d.f3 d.f4 d.f5 = some (key d) ∧ (key d).size ≤ 1000000 ∧ d.f3.length ≤ 1000000) (M1 M2 : DataW S34) (e1 e2 : Int) (hng : newGo key l (.map []) = (M1,e1)) (hmg : newGo key m (.map []) = (M2,e2)) (he : e1 ≠ 0) :
  Calls Tryz.prog 14 #[.slice A0 l.length c0,.slice A1 m.length c1] w fun e w'=>e = .returned (.bool true) ∧ Below w.heap.size w w':=by
 have HLN4:=As.mk (show l.length ≤ 400 by omega)
 have HMN4:=As.mk (show m.length ≤ 400 by omega)
 have HKEY:=As.mk hkey
 have HMEY:=As.mk hmey
 have HNG:=As.mk hng
 have HMG:=As.mk hmg
 have z1 : (e1 != 0) = true:=bne_iff_ne.mpr he
 have HE:=As.mk he
 clear hln hmn hkey hmey hng hmg he
 have HC0:=As.mk hc0
 have HR0:=As.mk hr0
 have HC1:=As.mk hc1
 have HR1:=As.mk hr1
 have HF1:=As.mk h1
 have HF2:=As.mk h2
 have HB:=As.mk (Below.refl w.heap.size w)
 clear hc0 hr0 hc1 hr1 h1 h2
 go_enter Tryz.func14,Tryz.ntmps14
 go_upto_region 5 with (first | (go_at_call 15;(with_reducible refine (awake_calls _).mono ?_);rintro e wa ⟨rfl,hb_⟩;have n0_:=As.mk (bS (by repeat (first | (with_reducible first | exact HB.out | apply bA | apply bN | apply bD) | exact HB.out)) hb_);clear HB hb_;have HB:=n0_;clear n0_) | (go_at_call 16;(with_reducible refine (r07_Few.calls k A0 c0 l 10 _ _ ?s1 HC0.out HF1.out).mono ?_);(case s1=>exact Kd.C_below HR0.out (by repeat (first | (with_reducible first | exact HB.out | apply bA | apply bN | apply bD) | exact HB.out)));rintro e wb ⟨rfl,hb_⟩;have n0_:=As.mk (bS (by repeat (first | (with_reducible first | exact HB.out | apply bA | apply bN | apply bD) | exact HB.out)) hb_);clear HB hb_;have HB:=n0_;clear n0_) | (go_at_call 16;(with_reducible refine (r07_Few.calls k A1 c1 m 10 _ _ ?s1 HC1.out HF2.out).mono ?_);(case s1=>exact Kd.C_below HR1.out (by repeat (first | (with_reducible first | exact HB.out | apply bA | apply bN | apply bD) | exact HB.out)));rintro e wc ⟨rfl,hb_⟩;have n0_:=As.mk (bS (by repeat (first | (with_reducible first | exact HB.out | apply bA | apply bN | apply bD) | exact HB.out)) hb_);clear HB hb_;have HB:=n0_;clear n0_) | (go_at_call 17;(with_reducible refine (new_gen key k A0 c0 l _ M1 e1 ?s1 HC0.out HLN4.out HKEY.out HNG.out).mono ?_);(case s1=>exact Kd.C_below HR0.out (by repeat (first | (with_reducible first | exact HB.out | apply bA | apply bN | apply bD) | exact HB.out)));rintro e w3 ⟨p1,rfl,hg_,hbad_,hb_⟩;have HSG:=As.mk hg_;have HSB:=As.mk hbad_;have n0_:=As.mk (bS (by repeat (first | (with_reducible first | exact HB.out | apply bA | apply bN | apply bD) | exact HB.out)) hb_);clear HB hb_;have HB:=n0_;clear n0_;clear hg_ hbad_) | (go_at_call 17;(with_reducible refine (new_gen key k A1 c1 m _ M2 e2 ?s1 HC1.out HMN4.out HMEY.out HMG.out).mono ?_);(case s1=>exact Kd.C_below HR1.out (by repeat (first | (with_reducible first | exact HB.out | apply bA | apply bN | apply bD) | exact HB.out)));rintro e w4 ⟨p2,rfl,hg_,hbad_,hb_⟩;have HTG:=As.mk hg_;have HTB:=As.mk hbad_;have mHSG_:=As.mk (fun h_ : e1 = 0=>(HSG.out h_).below hb_);clear HSG;have HSG:=mHSG_;clear mHSG_;have n0_:=As.mk (bS (by repeat (first | (with_reducible first | exact HB.out | apply bA | apply bN | apply bD) | exact HB.out)) hb_);clear HB hb_;have HB:=n0_;clear n0_;clear hg_ hbad_))
 obtain rfl:=HSB.out HE.out
 go_wp2_with (fail)
 go_ret
 exact ⟨rfl,(by repeat (first | (with_reducible first | exact HB.out | apply bA | apply bN | apply bD) | exact HB.out))⟩
theorem back_bad2 (k : Nat) (key : S34 → ByteArray) (A0 : Option Addr) (c0 : Nat) (l : List S34) (A1 : Option Addr) (c1 : Nat) (m : List S34) (w : World) (hr0 : Kd.C k34 w A0 l.length l) (hc0 : l.length ≤ c0) (hr1 : Kd.C k34 w A1 m.length m) (hc1 : m.length ≤ c1) (h1 : r07_Few.f k l 10 = some true) (h2 : r07_Few.f k m 10 = some true) (hln : l.length ≤ 10) (hmn : m.length ≤ 10) (hkey : ∀ d ∈ l,def_Key.f k d.f0 d.f1 d.f2 d.f3 d.f4 d.f5 = some (key d) ∧ (key d).size ≤ 1000000 ∧ d.f3.length ≤ 1000000) (hmey : ∀ d ∈ m,def_Key.f k d.f0 d.f1 d.f2 d.f3 d.f4 d.f5 = some (key d) ∧ (key d).size ≤ 1000000 ∧ d.f3.length ≤ 1000000) (M1 M2 : DataW S34) (e1 e2 : Int) (hng : newGo key l (.map []) = (M1,e1)) (hmg : newGo key m (.map []) = (M2,e2)) (he1 : e1 = 0) (he : e2 ≠ 0) :
  Calls Tryz.prog 14 #[.slice A0 l.length c0,.slice A1 m.length c1] w fun e w'=>e = .returned (.bool true) ∧ Below w.heap.size w w':=by
 have HLN4:=As.mk (show l.length ≤ 400 by omega)
 have HMN4:=As.mk (show m.length ≤ 400 by omega)
 have HKEY:=As.mk hkey
 have HMEY:=As.mk hmey
 have HNG:=As.mk hng
 have HMG:=As.mk hmg
 have z1 : (e2 != 0) = true:=bne_iff_ne.mpr he
 have z2 : (e1 != 0) = false:=by rw [he1];rfl
 have HE:=As.mk he
 clear hln hmn hkey hmey hng hmg he he1
 have HC0:=As.mk hc0
 have HR0:=As.mk hr0
 have HC1:=As.mk hc1
 have HR1:=As.mk hr1
 have HF1:=As.mk h1
 have HF2:=As.mk h2
 have HB:=As.mk (Below.refl w.heap.size w)
 clear hc0 hr0 hc1 hr1 h1 h2
 go_enter Tryz.func14,Tryz.ntmps14
 go_upto_region 5 with (first | (go_at_call 15;(with_reducible refine (awake_calls _).mono ?_);rintro e wa ⟨rfl,hb_⟩;have n0_:=As.mk (bS (by repeat (first | (with_reducible first | exact HB.out | apply bA | apply bN | apply bD) | exact HB.out)) hb_);clear HB hb_;have HB:=n0_;clear n0_) | (go_at_call 16;(with_reducible refine (r07_Few.calls k A0 c0 l 10 _ _ ?s1 HC0.out HF1.out).mono ?_);(case s1=>exact Kd.C_below HR0.out (by repeat (first | (with_reducible first | exact HB.out | apply bA | apply bN | apply bD) | exact HB.out)));rintro e wb ⟨rfl,hb_⟩;have n0_:=As.mk (bS (by repeat (first | (with_reducible first | exact HB.out | apply bA | apply bN | apply bD) | exact HB.out)) hb_);clear HB hb_;have HB:=n0_;clear n0_) | (go_at_call 16;(with_reducible refine (r07_Few.calls k A1 c1 m 10 _ _ ?s1 HC1.out HF2.out).mono ?_);(case s1=>exact Kd.C_below HR1.out (by repeat (first | (with_reducible first | exact HB.out | apply bA | apply bN | apply bD) | exact HB.out)));rintro e wc ⟨rfl,hb_⟩;have n0_:=As.mk (bS (by repeat (first | (with_reducible first | exact HB.out | apply bA | apply bN | apply bD) | exact HB.out)) hb_);clear HB hb_;have HB:=n0_;clear n0_) | (go_at_call 17;(with_reducible refine (new_gen key k A0 c0 l _ M1 e1 ?s1 HC0.out HLN4.out HKEY.out HNG.out).mono ?_);(case s1=>exact Kd.C_below HR0.out (by repeat (first | (with_reducible first | exact HB.out | apply bA | apply bN | apply bD) | exact HB.out)));rintro e w3 ⟨p1,rfl,hg_,hbad_,hb_⟩;have HSG:=As.mk hg_;have HSB:=As.mk hbad_;have n0_:=As.mk (bS (by repeat (first | (with_reducible first | exact HB.out | apply bA | apply bN | apply bD) | exact HB.out)) hb_);clear HB hb_;have HB:=n0_;clear n0_;clear hg_ hbad_) | (go_at_call 17;(with_reducible refine (new_gen key k A1 c1 m _ M2 e2 ?s1 HC1.out HMN4.out HMEY.out HMG.out).mono ?_);(case s1=>exact Kd.C_below HR1.out (by repeat (first | (with_reducible first | exact HB.out | apply bA | apply bN | apply bD) | exact HB.out)));rintro e w4 ⟨p2,rfl,hg_,hbad_,hb_⟩;have HTG:=As.mk hg_;have HTB:=As.mk hbad_;have mHSG_:=As.mk (fun h_ : e1 = 0=>(HSG.out h_).below hb_);clear HSG;have HSG:=mHSG_;clear mHSG_;have n0_:=As.mk (bS (by repeat (first | (with_reducible first | exact HB.out | apply bA | apply bN | apply bD) | exact HB.out)) hb_);clear HB hb_;have HB:=n0_;clear n0_;clear hg_ hbad_))
 obtain rfl:=HTB.out HE.out
 go_wp2_with (fail)
 go_ret
 exact ⟨rfl,(by repeat (first | (with_reducible first | exact HB.out | apply bA | apply bN | apply bD) | exact HB.out))⟩
theorem same_gen (key : S34 → ByteArray) (sm : S34 → S34 → Bool) (k : Nat) (w : World) (v1 v2 : Value) (o1 o2 : List S34) (bq : Bool) (h1 : SnR w v1 (mapK key o1)) (h2 : SnR w v2 (mapK key o2)) (l1 : o1.length ≤ 1000) (l2 : o2.length ≤ 1000)
  (hsm : ∀ x ∈ o1,∀ y ∈ o2,def_Same.f k x.f0 x.f1 x.f2 x.f3 x.f4 x.f5 y.f0 y.f1 y.f2 y.f3 y.f4 y.f5 = some (sm x y)) (hq : equalM sm (mapK key o1) (mapK key o2) = bq) :
  Calls Tryz.prog 34 #[v1,v2] w fun e w'=>e = .returned (.bool bq) ∧ Below w.heap.size w w':=by
 have h3:=same_calls sm k w v1 v2 (mapK key o1) (mapK key o2) h1 h2 (by rw [size_mapK];omega) (by rw [size_mapK];omega) (fun x y hx hy=>hsm x (elem_mapK hx) y (elem_mapK hy))
 rw [hq] at h3
 exact h3
section
variable {P : Program} {ops : Array Oper} {Q : Exit → Act → World → Prop} {md : Region.Mode} {S : World → Prop} {ds : List Nat} {T : Bool × List (List Nat × List Nat)}
theorem tri_ {i j h : Nat} {Ni Nj Nh : Option Tmp} {oi oj oh : Oper} {fuel : Nat} {l : Array Bool} {a : Act} {w : World} (li lj lh : Array Bool) (hi : ops[i]? = some oi) (hj : ops[j]? = some oj) (hh : ops[h]? = some oh) (hNi : oi.dst = Ni) (hNj : oj.dst = Nj) (hNh : oh.dst = Nh)
  (hc : (Region.ready md ops l == [i,j,h] && l.setIfInBounds i true == li && l.setIfInBounds j true == lj && l.setIfInBounds h true == lh) = true) (hdi : i ∉ ds) (hdj : j ∉ ds) (hdh : h ∉ ds)
  (h1 : ∀ K : Act → World → Prop,Shut (∀ a' w',S w' → (S w' → wpAnyLast P md ops Q S ds fuel li a' w') → K a' w') → if Region.wanted oi (yielded ops a.tmps) = true then Oper.wp P oi a w K Q else K (a.put Ni undef) w)
  (h2 : ∀ K : Act → World → Prop,Shut (∀ a' w',S w' → (S w' → wpAnyLast P md ops Q S ds fuel lj a' w') → K a' w') → if Region.wanted oj (yielded ops a.tmps) = true then Oper.wp P oj a w K Q else K (a.put Nj undef) w)
  (h3 : ∀ K : Act → World → Prop,Shut (∀ a' w',S w' → (S w' → wpAnyLast P md ops Q S ds fuel lh a' w') → K a' w') → if Region.wanted oh (yielded ops a.tmps) = true then Oper.wp P oh a w K Q else K (a.put Nh undef) w) :
  wpAnyLast P md ops Q S ds (fuel + 1) l a w:=by
 subst hNi
 subst hNj
 subst hNh
 simp only [Bool.and_eq_true,beq_iff_eq] at hc
 obtain ⟨⟨⟨q0,q1⟩,q2⟩,q3⟩:=hc
 subst q1
 subst q2
 subst q3
 exact wpAnyLast_ready q0 (by simp) (AllReadyL.cons hi hdi (fun K hK=>h1 K hK) (AllReadyL.cons hj hdj (fun K hK=>h2 K hK) (AllReadyL.cons hh hdh (fun K hK=>h3 K hK) AllReadyL.nil)))
theorem tri_of {i j h : Nat} {l li lj lh : Array Bool} (hT : rtab md ops = T) (hc : (readyT T.2 l.toList == [i,j,h] && l.toList.set i true == li.toList && l.toList.set j true == lj.toList && l.toList.set h true == lh.toList) = true) : (Region.ready md ops l == [i,j,h] && l.setIfInBounds i true == li && l.setIfInBounds j true == lj && l.setIfInBounds h true == lh) = true:=by
 simp only [Bool.and_eq_true] at hc ⊢
 obtain ⟨⟨⟨q0,q1⟩,q2⟩,q3⟩:=hc
 subst hT
 exact ⟨⟨⟨by rw [ready_eq];exact q0,set_of q1⟩,set_of q2⟩,set_of q3⟩
end
def snapback.T8 : Bool × List (List Nat × List Nat):=(true,[([],[]),([0],[0]),([1],[1]),([2],[2]),([2],[2]),([3,4,2,2],[2,3,4]),([2,5],[2,5]),([6,5],[6]),([7],[7]),([8,7,7],[7,8]),([9,7],[7,9]),([7],[7]),([11,9,7],[7,11]),([12,7],[7,12]),([10,13,7],[7,10,13]),([7],[7]),([7],[7]),([15,16,12,7],[7,15,16]),([14,17,7],[7,14,17]),([7,18],[7,18]),([19,17,0,1,2,3,4,5,6,7,8,9,10,11,12,13,14,15,16,17,18,19],[19])])
def snapback.B8 : List Nat:=[0,1,3,7,7,31,63,127,255,511,1023,255,3071,7167,16383,255,255,105471,262143,524287,1048575]
theorem snapback.tab8 : rtab .any (opsOf Tryz.f14 8) = snapback.T8:=by kernel_rfl
theorem snapback.bits8 : waitsOk snapback.T8.2 snapback.B8 = true:=by kernel_rfl
theorem back_go (sm : S34 → S34 → Bool) (bq : Bool) (o1 o2 : List S34) (k : Nat) (key : S34 → ByteArray) (A0 : Option Addr) (c0 : Nat) (l : List S34) (A1 : Option Addr) (c1 : Nat) (m : List S34) (w : World) (hr0 : Kd.C k34 w A0 l.length l) (hc0 : l.length ≤ c0) (hr1 : Kd.C k34 w A1 m.length m) (hc1 : m.length ≤ c1) (h1 : r07_Few.f k l 10 = some true) (h2 : r07_Few.f k m 10 = some true) (hln : l.length ≤ 10) (hmn : m.length ≤ 10) (hkey : ∀ d ∈ l,def_Key.f k d.f0 d.f1 d.f2 d.f3 d.f4 d.f5 = some (key d) ∧ (key d).size ≤ 1000000 ∧ d.f3.length ≤ 1000000) (hmey : ∀ d ∈ m,def_Key.f k d.f0 d.f1 d.f2 d.f3 d.f4 d.f5 = some (key d) ∧ (key d).size ≤ 1000000 ∧ d.f3.length ≤ 1000000) (hn1 : newL key l [] = (o1,0)) (hn2 : newL key m [] = (o2,0))
  (hds1 : ∀ x ∈ o1,∀ y ∈ o1,def_Same.f k x.f0 x.f1 x.f2 x.f3 x.f4 x.f5 y.f0 y.f1 y.f2 y.f3 y.f4 y.f5 = some (sm x y)) (hds12 : ∀ x ∈ o1,∀ y ∈ o2,def_Same.f k x.f0 x.f1 x.f2 x.f3 x.f4 x.f5 y.f0 y.f1 y.f2 y.f3 y.f4 y.f5 = some (sm x y)) (hself : ∀ x ∈ o1,sm x x = true)
  (hwd1 : ∀ d ∈ o1,Wok k d) (hwd2 : ∀ d ∈ o2,Wok k d) (hlen : (snapO o1).length ≤ 100000) (hok : BytesOk (snapO o1)) (hread : ∀ d ∈ o1,∀ r,readR (defS d ++ r) 0 = (⟨d.f0,d.f1,d.f2,d.f3,d.f4,d.f5⟩,0,r,0)) (hnq : numR (snapO o1) 0 = ((o1.length : Int),o1.flatMap defS,0)) (hne : ∀ d ∈ o1,0 < (key d).size)
  (hq : equalM sm (mapK key o1) (mapK key o2) = bq) (hz : ((strOfNums (snapO o1)).toList == (strOfNums (snapO o2)).toList) = bq) :
  Calls Tryz.prog 14 #[.slice A0 l.length c0,.slice A1 m.length c1] w fun e w'=>e = .returned (.bool true) ∧ Below w.heap.size w w':=by
 have hu34:=Tryz.underlying34
 have hk1:=new_mapK (key:=key) l (out:=[]) List.Pairwise.nil
 rw [hn1] at hk1
 obtain ⟨ha1,ha2,_⟩:=hk1
 obtain ⟨ha3,hris1⟩:=ha2 rfl
 have hng0 : newGo key l (.map []) = (mapK key o1,0):=Prod.ext ha3 ha1
 have hk2:=new_mapK (key:=key) m (out:=[]) List.Pairwise.nil
 rw [hn2] at hk2
 obtain ⟨hb1,hb2,_⟩:=hk2
 obtain ⟨hb3,hris2⟩:=hb2 rfl
 have hmg0 : newGo key m (.map []) = (mapK key o2,0):=Prod.ext hb3 hb1
 have ho1:=newL_len (key:=key) l []
 rw [hn1] at ho1
 have ho1 : o1.length ≤ 0 + l.length:=ho1
 have ho2:=newL_len (key:=key) m []
 rw [hn2] at ho2
 have ho2 : o2.length ≤ 0 + m.length:=ho2
 have hom : ∀ d ∈ o1,d ∈ l:=fun d hd=>by
  rcases newL_mem (key:=key) l [] d (by rw [hn1];exact hd) with h_ | h_
  ·exact h_
  ·cases h_
 obtain ⟨M1,hM1⟩ : ∃ M,M = mapK key o1:=⟨_,rfl⟩
 obtain ⟨M2,hM2⟩ : ∃ M,M = mapK key o2:=⟨_,rfl⟩
 obtain ⟨e1,he1⟩ : ∃ e : Int,e = 0:=⟨_,rfl⟩
 obtain ⟨e2,he2⟩ : ∃ e : Int,e = 0:=⟨_,rfl⟩
 have hng : newGo key l (.map []) = (M1,e1):=by rw [hM1,he1];exact hng0
 have hmg : newGo key m (.map []) = (M2,e2):=by rw [hM2,he2];exact hmg0
 obtain ⟨ob1,hob1⟩ : ∃ ob,snapO o1 = ob:=⟨_,rfl⟩
 obtain ⟨ob2,hob2⟩ : ∃ ob,snapO o2 = ob:=⟨_,rfl⟩
 rw [hob1,hob2] at hz
 have zb : (bq == bq) = true:=beq_self_eq_true _
 have HOB1:=As.mk hob1
 have HOB2:=As.mk hob2
 have HM1:=As.mk hM1
 have HM2:=As.mk hM2
 have HE1:=As.mk he1
 have HE2:=As.mk he2
 have z1 : (e1 != 0) = false:=by rw [he1];rfl
 have z2 : (e2 != 0) = false:=by rw [he2];rfl
 have HO11:=As.mk (show o1.length ≤ 1000 by omega)
 have HO15:=As.mk (show o1.length ≤ 500 by omega)
 have HO12:=As.mk (show o1.length ≤ 20 by omega)
 have HO21:=As.mk (show o2.length ≤ 1000 by omega)
 have HO25:=As.mk (show o2.length ≤ 500 by omega)
 have HWD1:=As.mk hwd1
 have HWD2:=As.mk hwd2
 have HDS1:=As.mk hds1
 have HDS12:=As.mk hds12
 have HOE1:=As.mk hself
 have HLEN:=As.mk hlen
 have HOK:=As.mk hok
 have HRIS1:=As.mk hris1
 have HRD:=As.mk hread
 have HNQ:=As.mk hnq
 have HK1:=As.mk (fun d hd=>hkey d (hom d hd))
 have HN1:=As.mk hne
 have HEQ:=As.mk hq
 have HLN4:=As.mk (show l.length ≤ 400 by omega)
 have HMN4:=As.mk (show m.length ≤ 400 by omega)
 have HKEY:=As.mk hkey
 have HMEY:=As.mk hmey
 have HNG:=As.mk hng
 have HMG:=As.mk hmg
 clear hln hmn hkey hmey hng hmg hng0 hmg0 ha1 ha2 ha3 hb1 hb2 hb3 hris1 hris2 ho1 ho2 hom hM1 hM2 he1 he2 hob1 hob2 hwd1 hwd2 hds1 hds12 hself hlen hok hread hnq hne hq hn1 hn2
 have HC0:=As.mk hc0
 have HR0:=As.mk hr0
 have HC1:=As.mk hc1
 have HR1:=As.mk hr1
 have HF1:=As.mk h1
 have HF2:=As.mk h2
 have HB:=As.mk (Below.refl w.heap.size w)
 clear hc0 hr0 hc1 hr1 h1 h2
 go_enter Tryz.func14,Tryz.ntmps14
 go_upto_region 5 with (first | (go_at_call 15;(with_reducible refine (awake_calls _).mono ?_);rintro e wa ⟨rfl,hb_⟩;have n0_:=As.mk (bS (by repeat (first | (with_reducible first | exact HB.out | apply bA | apply bN | apply bD) | exact HB.out)) hb_);clear HB hb_;have HB:=n0_;clear n0_) | (go_at_call 16;(with_reducible refine (r07_Few.calls k A0 c0 l 10 _ _ ?s1 HC0.out HF1.out).mono ?_);(case s1=>exact Kd.C_below HR0.out (by repeat (first | (with_reducible first | exact HB.out | apply bA | apply bN | apply bD) | exact HB.out)));rintro e wb ⟨rfl,hb_⟩;have n0_:=As.mk (bS (by repeat (first | (with_reducible first | exact HB.out | apply bA | apply bN | apply bD) | exact HB.out)) hb_);clear HB hb_;have HB:=n0_;clear n0_) | (go_at_call 16;(with_reducible refine (r07_Few.calls k A1 c1 m 10 _ _ ?s1 HC1.out HF2.out).mono ?_);(case s1=>exact Kd.C_below HR1.out (by repeat (first | (with_reducible first | exact HB.out | apply bA | apply bN | apply bD) | exact HB.out)));rintro e wc ⟨rfl,hb_⟩;have n0_:=As.mk (bS (by repeat (first | (with_reducible first | exact HB.out | apply bA | apply bN | apply bD) | exact HB.out)) hb_);clear HB hb_;have HB:=n0_;clear n0_) | (go_at_call 17;(with_reducible refine (new_gen key k A0 c0 l _ M1 e1 ?s1 HC0.out HLN4.out HKEY.out HNG.out).mono ?_);(case s1=>exact Kd.C_below HR0.out (by repeat (first | (with_reducible first | exact HB.out | apply bA | apply bN | apply bD) | exact HB.out)));rintro e w3 ⟨p1,rfl,hg_,hbad_,hb_⟩;have HSG:=As.mk hg_;have HSB:=As.mk hbad_;have n0_:=As.mk (bS (by repeat (first | (with_reducible first | exact HB.out | apply bA | apply bN | apply bD) | exact HB.out)) hb_);clear HB hb_;have HB:=n0_;clear n0_;clear hg_ hbad_) | (go_at_call 17;(with_reducible refine (new_gen key k A1 c1 m _ M2 e2 ?s1 HC1.out HMN4.out HMEY.out HMG.out).mono ?_);(case s1=>exact Kd.C_below HR1.out (by repeat (first | (with_reducible first | exact HB.out | apply bA | apply bN | apply bD) | exact HB.out)));rintro e w4 ⟨p2,rfl,hg_,hbad_,hb_⟩;have HTG:=As.mk hg_;have HTB:=As.mk hbad_;have mHSG_:=As.mk (fun h_ : e1 = 0=>(HSG.out h_).below hb_);clear HSG;have HSG:=mHSG_;clear mHSG_;have n0_:=As.mk (bS (by repeat (first | (with_reducible first | exact HB.out | apply bA | apply bN | apply bD) | exact HB.out)) hb_);clear HB hb_;have HB:=n0_;clear n0_;clear hg_ hbad_))
 have hsg:=HSG.out HE1.out
 rw [HM1.out] at hsg
 obtain ⟨gs,bs,he_,hcs_,hms_⟩:=hsg
 injection he_ with he_
 subst he_
 have HSN:=As.mk (show SnR w4 (.pointer (some ⟨gs,0,none⟩)) (mapK key o1) from ⟨gs,bs,rfl,hcs_,hms_⟩)
 have htg:=HTG.out HE2.out
 rw [HM2.out] at htg
 obtain ⟨gt,bt,he_,hct_,hmt_⟩:=htg
 injection he_ with he_
 subst he_
 have HTN:=As.mk (show SnR w4 (.pointer (some ⟨gt,0,none⟩)) (mapK key o2) from ⟨gt,bt,rfl,hct_,hmt_⟩)
 clear hcs_ hms_ hct_ hmt_ HSG HTG HSB HTB
 go_upto_region 8 with (first | (go_at_call 36;(with_reducible refine (write_same key k _ (some ⟨gs,0,none⟩) o1 HSN.out HO15.out HWD1.out).mono ?_);rintro e w5 ⟨A5,c5,rfl,hl5_,hC5_,hb_⟩;have HL5:=As.mk hl5_;have HC5:=As.mk hC5_;have mHSN_:=As.mk (HSN.out.below hb_);clear HSN;have HSN:=mHSN_;clear mHSN_;have mHTN_:=As.mk (HTN.out.below hb_);clear HTN;have HTN:=mHTN_;clear mHTN_;have n0_:=As.mk (bS (by repeat (first | (with_reducible first | exact HB.out | apply bA | apply bN | apply bD) | exact HB.out)) hb_);clear HB hb_;have HB:=n0_;clear n0_;clear hl5_ hC5_) | (go_at_call 58;(with_reducible refine (parse_good key k A5 c5 o1 _ HC5.out HL5.out HO12.out HLEN.out HOK.out HRIS1.out HRD.out HNQ.out HK1.out HN1.out).mono ?_);rintro e w6 ⟨gx,rfl,hx_,hb_⟩;have HXN:=As.mk hx_;have mHSN_:=As.mk (HSN.out.below hb_);clear HSN;have HSN:=mHSN_;clear mHSN_;have mHTN_:=As.mk (HTN.out.below hb_);clear HTN;have HTN:=mHTN_;clear mHTN_;have n0_:=As.mk (bS (by repeat (first | (with_reducible first | exact HB.out | apply bA | apply bN | apply bD) | exact HB.out)) hb_);clear HB hb_;have HB:=n0_;clear n0_;clear hx_ HC5 HL5))
 refine start_ (n:=21) (S:=fun w'=>True) (ds:=[]) #[false,false,false,false,false,false,false,false,false,false,false,false,false,false,false,false,false,false,false,false,false] (by kernel_rfl) rfl rfl trivial (fun hHeld=>?_);refine with_tabW snapback.tab8 snapback.bits8 (fun HT_ HW_=>?_)
 have yS:=As.mk (HSN.out.below (bD (Below.refl _ w6)))
 have yT:=As.mk (HTN.out.below (bD (Below.refl _ w6)))
 have yX:=As.mk (HXN.out.below (bD (Below.refl _ w6)))
 have HBW:=As.mk (bD HB.out)
 clear HSN HTN HXN HB
 generalize w6.drew = W6 at yS yT yX HBW ⊢
 have HSN:=yS
 have HTN:=yT
 have HXN:=yX
 have HB:=As.mk (Below.refl W6.heap.size W6)
 clear yS yT yX
 refine pure_ (i:=0) (N:=some 60) (v:=?_) (a':=?_) #[true,false,false,false,false,false,false,false,false,false,false,false,false,false,false,false,false,false,false,false,false] rfl rfl (any_of HT_.out (by kernel_rfl)) (fun _ _ _ h=>h) (Or.inl ⟨by rfl,?_⟩) ?_ ?_
 rotate_left
 ·intro w'
  go_simp
  with_reducible rfl
 rotate_left
 ·simp only [Act.put,List.setIfInBounds_toArray,List.set_cons_zero,List.set_cons_succ,i64_w,i32_w]
  rfl
 refine pure_ (i:=1) (N:=some 61) (v:=?_) (a':=?_) #[true,true,false,false,false,false,false,false,false,false,false,false,false,false,false,false,false,false,false,false,false] rfl rfl (any_of HT_.out (by kernel_rfl)) (fun _ _ _ h=>h) (Or.inl ⟨by rfl,?_⟩) ?_ ?_
 rotate_left
 ·intro w'
  go_simp
  with_reducible rfl
 rotate_left
 ·simp only [Act.put,List.setIfInBounds_toArray,List.set_cons_zero,List.set_cons_succ,i64_w,i32_w]
  rfl
 refine pure_ (i:=2) (N:=some 62) (v:=?_) (a':=?_) #[true,true,true,false,false,false,false,false,false,false,false,false,false,false,false,false,false,false,false,false,false] rfl rfl (any_of HT_.out (by kernel_rfl)) (fun _ _ _ h=>h) (Or.inl ⟨by rfl,?_⟩) ?_ ?_
 rotate_left
 ·intro w'
  go_simp
  with_reducible rfl
 rotate_left
 ·simp only [Act.put,List.setIfInBounds_toArray,List.set_cons_zero,List.set_cons_succ,i64_w,i32_w]
  rfl
 refine pure_ (i:=3) (N:=some 63) (v:=?_) (a':=?_) #[true,true,true,true,false,false,false,false,false,false,false,false,false,false,false,false,false,false,false,false,false] rfl rfl (any_of HT_.out (by kernel_rfl)) (fun _ _ _ h=>h) (Or.inl ⟨by rfl,?_⟩) ?_ ?_
 rotate_left
 ·intro w'
  go_simp
  with_reducible rfl
 rotate_left
 ·simp only [Act.put,List.setIfInBounds_toArray,List.set_cons_zero,List.set_cons_succ,i64_w,i32_w]
  rfl
 refine pure_ (i:=4) (N:=some 64) (v:=?_) (a':=?_) #[true,true,true,true,true,false,false,false,false,false,false,false,false,false,false,false,false,false,false,false,false] rfl rfl (any_of HT_.out (by kernel_rfl)) (fun _ _ _ h=>h) (Or.inl ⟨by rfl,?_⟩) ?_ ?_
 rotate_left
 ·intro w'
  go_simp
  with_reducible rfl
 rotate_left
 ·simp only [Act.put,List.setIfInBounds_toArray,List.set_cons_zero,List.set_cons_succ,i64_w,i32_w]
  rfl
 refine one_ (i:=5) (N:=some 65) #[true,true,true,true,true,true,false,false,false,false,false,false,false,false,false,false,false,false,false,false,false] rfl rfl (one_of HT_.out (by kernel_rfl)) (by decide) (fun K hK=>?_)
 refine goes_ Tryz.func34 (by kernel_rfl) rfl #[.pointer (some ⟨gx,0,none⟩),.pointer (some ⟨gs,0,none⟩)] (by rfl) rfl rfl (by (try simp only [List.map_toArray,List.map_cons,List.map_nil]);first | done | rfl | (simp only [List.length_drop,List.length_take];rfl)) ?_
 with_reducible refine (same_self key sm k _ _ _ o1 (HXN.out.below HB.out) (HSN.out.below HB.out) HO11.out HDS1.out HOE1.out).mono ?_
 rintro er wq ⟨rfl,hb_⟩
 have n0_:=As.mk (bS HB.out hb_)
 clear HB hb_
 have HB:=n0_
 clear n0_
 refine ⟨_,rfl,?_⟩
 refine hK.out _ _ trivial (fun hHeld=>?_)
 clear hK K
 refine norm_ (a':=?_) ?_ ?_
 rotate_left
 ·show Act.put _ (some 65) _ = _
  simp only [Act.put,List.setIfInBounds_toArray,List.set_cons_zero,List.set_cons_succ,i64_w,i32_w]
  rfl
 refine pure_ (i:=6) (N:=some 66) (v:=?_) (a':=?_) #[true,true,true,true,true,true,true,false,false,false,false,false,false,false,false,false,false,false,false,false,false] rfl rfl (any_of HT_.out (by kernel_rfl)) (fun _ _ _ h=>h) (Or.inl ⟨by rfl,?_⟩) ?_ ?_
 rotate_left
 ·intro w'
  go_simp
  with_reducible rfl
 rotate_left
 ·simp only [Act.put,List.setIfInBounds_toArray,List.set_cons_zero,List.set_cons_succ,i64_w,i32_w]
  rfl
 refine pure_ (i:=7) (N:=some 67) (v:=?_) (a':=?_) #[true,true,true,true,true,true,true,true,false,false,false,false,false,false,false,false,false,false,false,false,false] rfl rfl (any_of HT_.out (by kernel_rfl)) (fun _ _ _ h=>h) (Or.inl ⟨by rfl,?_⟩) ?_ ?_
 rotate_left
 ·intro w'
  go_simp
  with_reducible rfl
 rotate_left
 ·simp only [Act.put,List.setIfInBounds_toArray,List.set_cons_zero,List.set_cons_succ,i64_w,i32_w]
  rfl
 refine pure_ (i:=8) (N:=some 68) (v:=?_) (a':=?_) #[true,true,true,true,true,true,true,true,true,false,false,false,false,false,false,false,false,false,false,false,false] rfl rfl (any_of HT_.out (by kernel_rfl)) (fun _ _ _ h=>h) (Or.inl ⟨by rfl,?_⟩) ?_ ?_
 rotate_left
 ·intro w'
  go_simp
  with_reducible rfl
 rotate_left
 ·simp only [Act.put,List.setIfInBounds_toArray,List.set_cons_zero,List.set_cons_succ,i64_w,i32_w]
  rfl
 refine pure_ (i:=11) (N:=some 71) (v:=?_) (a':=?_) #[true,true,true,true,true,true,true,true,true,false,false,true,false,false,false,false,false,false,false,false,false] rfl rfl (any_of HT_.out (by kernel_rfl)) (fun _ _ _ h=>h) (Or.inl ⟨by rfl,?_⟩) ?_ ?_
 rotate_left
 ·intro w'
  go_simp
  with_reducible rfl
 rotate_left
 ·simp only [Act.put,List.setIfInBounds_toArray,List.set_cons_zero,List.set_cons_succ,i64_w,i32_w]
  rfl
 refine pure_ (i:=15) (N:=some 75) (v:=?_) (a':=?_) #[true,true,true,true,true,true,true,true,true,false,false,true,false,false,false,true,false,false,false,false,false] rfl rfl (any_of HT_.out (by kernel_rfl)) (fun _ _ _ h=>h) (Or.inl ⟨by rfl,?_⟩) ?_ ?_
 rotate_left
 ·intro w'
  go_simp
  with_reducible rfl
 rotate_left
 ·simp only [Act.put,List.setIfInBounds_toArray,List.set_cons_zero,List.set_cons_succ,i64_w,i32_w]
  rfl
 refine pure_ (i:=16) (N:=some 76) (v:=?_) (a':=?_) #[true,true,true,true,true,true,true,true,true,false,false,true,false,false,false,true,true,false,false,false,false] rfl rfl (any_of HT_.out (by kernel_rfl)) (fun _ _ _ h=>h) (Or.inl ⟨by rfl,?_⟩) ?_ ?_
 rotate_left
 ·intro w'
  go_simp
  with_reducible rfl
 rotate_left
 ·simp only [Act.put,List.setIfInBounds_toArray,List.set_cons_zero,List.set_cons_succ,i64_w,i32_w]
  rfl
 refine one_ (i:=9) (N:=some 69) #[true,true,true,true,true,true,true,true,true,true,false,true,false,false,false,true,true,false,false,false,false] rfl rfl (one_of HT_.out (by kernel_rfl)) (by decide) (fun K hK=>?_)
 refine goes_ Tryz.func36 (by kernel_rfl) rfl #[.pointer (some ⟨gs,0,none⟩)] (by rfl) rfl rfl (by (try simp only [List.map_toArray,List.map_cons,List.map_nil]);first | done | rfl | (simp only [List.length_drop,List.length_take];rfl)) ?_
 with_reducible refine (write_same key k _ (some ⟨gs,0,none⟩) o1 (HSN.out.below HB.out) HO15.out HWD1.out).mono ?_
 rintro er w9 ⟨A7,c7,rfl,hl7_,hC7_,hb_⟩
 rw [HOB1.out] at hC7_ hl7_
 rw [HOB1.out]
 have HC7:=As.mk hC7_
 clear hC7_ hl7_
 have n0_:=As.mk (bS HB.out hb_)
 clear HB hb_
 have HB:=n0_
 clear n0_
 refine ⟨_,rfl,?_⟩
 refine hK.out _ _ trivial (fun hHeld=>?_)
 clear hK K
 refine norm_ (a':=?_) ?_ ?_
 rotate_left
 ·show Act.put _ (some 69) _ = _
  simp only [Act.put,List.setIfInBounds_toArray,List.set_cons_zero,List.set_cons_succ,i64_w,i32_w]
  rfl
 refine two_ (i:=10) (j:=12) (Ni:=some 70) (Nj:=some 72) #[true,true,true,true,true,true,true,true,true,true,true,true,false,false,false,true,true,false,false,false,false] #[true,true,true,true,true,true,true,true,true,true,false,true,true,false,false,true,true,false,false,false,false] rfl rfl rfl rfl (two_of HT_.out (by kernel_rfl)) (by decide) (by decide) (fun K hK=>?_) (fun K hK=>?_)
 ·have hcv:=Kd.C_string (P:=Tryz.prog) (c:=c7) Tryz.underlying54 Tryz.underlying5 Tryz.underlying9 HC7.out
  refine value_ (w1:=?_) (v:=?_) (by rfl) rfl ?_ ?_
  rotate_left 2
  ·go_simp
   constructor
   ·rfl
   ·rfl
  refine hK.out _ _ trivial (fun hHeld=>?_)
  clear hK K
  refine norm_ (a':=?_) ?_ ?_
  rotate_left
  ·show Act.put _ (some 70) _ = _
   simp only [Act.put,List.setIfInBounds_toArray,List.set_cons_zero,List.set_cons_succ,i64_w,i32_w]
   rfl
  clear hcv
  refine one_ (i:=12) (N:=some 72) #[true,true,true,true,true,true,true,true,true,true,true,true,true,false,false,true,true,false,false,false,false] rfl rfl (one_of HT_.out (by kernel_rfl)) (by decide) (fun K hK=>?_)
  refine goes_ Tryz.func36 (by kernel_rfl) rfl #[.pointer (some ⟨gt,0,none⟩)] (by rfl) rfl rfl (by (try simp only [List.map_toArray,List.map_cons,List.map_nil]);first | done | rfl | (simp only [List.length_drop,List.length_take];rfl)) ?_
  with_reducible refine (write_same key k _ (some ⟨gt,0,none⟩) o2 (HTN.out.below HB.out) HO25.out HWD2.out).mono ?_
  rintro er w12 ⟨A8,c8,rfl,hl8_,hC8_,hb_⟩
  rw [HOB2.out] at hC8_ hl8_
  rw [HOB2.out]
  have HC8:=As.mk hC8_
  clear hC8_ hl8_
  have n0_:=As.mk (bS HB.out hb_)
  clear HB hb_
  have HB:=n0_
  clear n0_
  refine ⟨_,rfl,?_⟩
  refine hK.out _ _ trivial (fun hHeld=>?_)
  clear hK K
  refine norm_ (a':=?_) ?_ ?_
  rotate_left
  ·show Act.put _ (some 72) _ = _
   simp only [Act.put,List.setIfInBounds_toArray,List.set_cons_zero,List.set_cons_succ,i64_w,i32_w]
   rfl
  refine two_ (i:=13) (j:=17) (Ni:=some 73) (Nj:=some 77) #[true,true,true,true,true,true,true,true,true,true,true,true,true,true,false,true,true,false,false,false,false] #[true,true,true,true,true,true,true,true,true,true,true,true,true,false,false,true,true,true,false,false,false] rfl rfl rfl rfl (two_of HT_.out (by kernel_rfl)) (by decide) (by decide) (fun K hK=>?_) (fun K hK=>?_)
  ·have hcv:=Kd.C_string (P:=Tryz.prog) (c:=c8) Tryz.underlying54 Tryz.underlying5 Tryz.underlying9 HC8.out
   refine value_ (w1:=?_) (v:=?_) (by rfl) rfl ?_ ?_
   rotate_left 2
   ·go_simp
    constructor
    ·rfl
    ·rfl
   refine hK.out _ _ trivial (fun hHeld=>?_)
   clear hK K
   refine norm_ (a':=?_) ?_ ?_
   rotate_left
   ·show Act.put _ (some 73) _ = _
    simp only [Act.put,List.setIfInBounds_toArray,List.set_cons_zero,List.set_cons_succ,i64_w,i32_w]
    rfl
   clear hcv
   refine pure_ (i:=14) (N:=some 74) (v:=?_) (a':=?_) #[true,true,true,true,true,true,true,true,true,true,true,true,true,true,true,true,true,false,false,false,false] rfl rfl (any_of HT_.out (by kernel_rfl)) (fun _ _ _ h=>h) (Or.inl ⟨by rfl,?_⟩) ?_ ?_
   rotate_left
   ·intro w'
    go_simp
    with_reducible rfl
   rotate_left
   ·simp only [Act.put,List.setIfInBounds_toArray,List.set_cons_zero,List.set_cons_succ,i64_w,i32_w]
    rfl
   refine one_ (i:=17) (N:=some 77) #[true,true,true,true,true,true,true,true,true,true,true,true,true,true,true,true,true,true,false,false,false] rfl rfl (one_of HT_.out (by kernel_rfl)) (by decide) (fun K hK=>?_)
   refine goes_ Tryz.func34 (by kernel_rfl) rfl #[.pointer (some ⟨gs,0,none⟩),.pointer (some ⟨gt,0,none⟩)] (by rfl) rfl rfl (by (try simp only [List.map_toArray,List.map_cons,List.map_nil]);first | done | rfl | (simp only [List.length_drop,List.length_take];rfl)) ?_
   with_reducible refine (same_gen key sm k _ _ _ o1 o2 bq (HSN.out.below HB.out) (HTN.out.below HB.out) HO11.out HO21.out HDS12.out HEQ.out).mono ?_
   rintro er wq ⟨rfl,hb_⟩
   have n0_:=As.mk (bS HB.out hb_)
   clear HB hb_
   have HB:=n0_
   clear n0_
   refine ⟨_,rfl,?_⟩
   refine hK.out _ _ trivial (fun hHeld=>?_)
   clear hK K
   refine norm_ (a':=?_) ?_ ?_
   rotate_left
   ·show Act.put _ (some 77) _ = _
    simp only [Act.put,List.setIfInBounds_toArray,List.set_cons_zero,List.set_cons_succ,i64_w,i32_w]
    rfl
   refine pure_ (i:=18) (N:=some 78) (v:=?_) (a':=?_) #[true,true,true,true,true,true,true,true,true,true,true,true,true,true,true,true,true,true,true,false,false] rfl rfl (any_of HT_.out (by kernel_rfl)) (fun _ _ _ h=>h) (Or.inl ⟨by rfl,?_⟩) ?_ ?_
   rotate_left
   ·intro w'
    go_simp
    with_reducible rfl
   rotate_left
   ·simp only [Act.put,List.setIfInBounds_toArray,List.set_cons_zero,List.set_cons_succ,i64_w,i32_w]
    rfl
   refine pure_ (i:=19) (N:=some 79) (v:=?_) (a':=?_) #[true,true,true,true,true,true,true,true,true,true,true,true,true,true,true,true,true,true,true,true,false] rfl rfl (any_of HT_.out (by kernel_rfl)) (fun _ _ _ h=>h) (Or.inl ⟨by rfl,?_⟩) ?_ ?_
   rotate_left
   ·intro w'
    go_simp
    with_reducible rfl
   rotate_left
   ·simp only [Act.put,List.setIfInBounds_toArray,List.set_cons_zero,List.set_cons_succ,i64_w,i32_w]
    rfl
   refine pure_ (i:=20) (N:=some 4) (v:=?_) (a':=?_) #[true,true,true,true,true,true,true,true,true,true,true,true,true,true,true,true,true,true,true,true,true] rfl rfl (any_of HT_.out (by kernel_rfl)) (fun _ _ _ h=>h) (Or.inl ⟨by rfl,?_⟩) ?_ ?_
   rotate_left
   ·intro w'
    go_simp
    with_reducible rfl
   rotate_left
   ·simp only [Act.put,List.setIfInBounds_toArray,List.set_cons_zero,List.set_cons_succ,i64_w,i32_w]
    rfl
   refine done_ (done_of HT_.out (by kernel_rfl)) ?_
   go_wp2_with (fail)
   go_ret
   exact ⟨rfl,bS HBW.out HB.out⟩
  ·refine goes_ Tryz.func34 (by kernel_rfl) rfl #[.pointer (some ⟨gs,0,none⟩),.pointer (some ⟨gt,0,none⟩)] (by rfl) rfl rfl (by (try simp only [List.map_toArray,List.map_cons,List.map_nil]);first | done | rfl | (simp only [List.length_drop,List.length_take];rfl)) ?_
   with_reducible refine (same_gen key sm k _ _ _ o1 o2 bq (HSN.out.below HB.out) (HTN.out.below HB.out) HO11.out HO21.out HDS12.out HEQ.out).mono ?_
   rintro er wq ⟨rfl,hb_⟩
   have mHC8_:=As.mk (Kd.C_below HC8.out hb_)
   clear HC8
   have HC8:=mHC8_
   clear mHC8_
   have n0_:=As.mk (bS HB.out hb_)
   clear HB hb_
   have HB:=n0_
   clear n0_
   refine ⟨_,rfl,?_⟩
   refine hK.out _ _ trivial (fun hHeld=>?_)
   clear hK K
   refine norm_ (a':=?_) ?_ ?_
   rotate_left
   ·show Act.put _ (some 77) _ = _
    simp only [Act.put,List.setIfInBounds_toArray,List.set_cons_zero,List.set_cons_succ,i64_w,i32_w]
    rfl
   refine one_ (i:=13) (N:=some 73) #[true,true,true,true,true,true,true,true,true,true,true,true,true,true,false,true,true,true,false,false,false] rfl rfl (one_of HT_.out (by kernel_rfl)) (by decide) (fun K hK=>?_)
   have hcv:=Kd.C_string (P:=Tryz.prog) (c:=c8) Tryz.underlying54 Tryz.underlying5 Tryz.underlying9 HC8.out
   refine value_ (w1:=?_) (v:=?_) (by rfl) rfl ?_ ?_
   rotate_left 2
   ·go_simp
    constructor
    ·rfl
    ·rfl
   refine hK.out _ _ trivial (fun hHeld=>?_)
   clear hK K
   refine norm_ (a':=?_) ?_ ?_
   rotate_left
   ·show Act.put _ (some 73) _ = _
    simp only [Act.put,List.setIfInBounds_toArray,List.set_cons_zero,List.set_cons_succ,i64_w,i32_w]
    rfl
   clear hcv
   refine pure_ (i:=14) (N:=some 74) (v:=?_) (a':=?_) #[true,true,true,true,true,true,true,true,true,true,true,true,true,true,true,true,true,true,false,false,false] rfl rfl (any_of HT_.out (by kernel_rfl)) (fun _ _ _ h=>h) (Or.inl ⟨by rfl,?_⟩) ?_ ?_
   rotate_left
   ·intro w'
    go_simp
    with_reducible rfl
   rotate_left
   ·simp only [Act.put,List.setIfInBounds_toArray,List.set_cons_zero,List.set_cons_succ,i64_w,i32_w]
    rfl
   refine pure_ (i:=18) (N:=some 78) (v:=?_) (a':=?_) #[true,true,true,true,true,true,true,true,true,true,true,true,true,true,true,true,true,true,true,false,false] rfl rfl (any_of HT_.out (by kernel_rfl)) (fun _ _ _ h=>h) (Or.inl ⟨by rfl,?_⟩) ?_ ?_
   rotate_left
   ·intro w'
    go_simp
    with_reducible rfl
   rotate_left
   ·simp only [Act.put,List.setIfInBounds_toArray,List.set_cons_zero,List.set_cons_succ,i64_w,i32_w]
    rfl
   refine pure_ (i:=19) (N:=some 79) (v:=?_) (a':=?_) #[true,true,true,true,true,true,true,true,true,true,true,true,true,true,true,true,true,true,true,true,false] rfl rfl (any_of HT_.out (by kernel_rfl)) (fun _ _ _ h=>h) (Or.inl ⟨by rfl,?_⟩) ?_ ?_
   rotate_left
   ·intro w'
    go_simp
    with_reducible rfl
   rotate_left
   ·simp only [Act.put,List.setIfInBounds_toArray,List.set_cons_zero,List.set_cons_succ,i64_w,i32_w]
    rfl
   refine pure_ (i:=20) (N:=some 4) (v:=?_) (a':=?_) #[true,true,true,true,true,true,true,true,true,true,true,true,true,true,true,true,true,true,true,true,true] rfl rfl (any_of HT_.out (by kernel_rfl)) (fun _ _ _ h=>h) (Or.inl ⟨by rfl,?_⟩) ?_ ?_
   rotate_left
   ·intro w'
    go_simp
    with_reducible rfl
   rotate_left
   ·simp only [Act.put,List.setIfInBounds_toArray,List.set_cons_zero,List.set_cons_succ,i64_w,i32_w]
    rfl
   refine done_ (done_of HT_.out (by kernel_rfl)) ?_
   go_wp2_with (fail)
   go_ret
   exact ⟨rfl,bS HBW.out HB.out⟩
 ·refine goes_ Tryz.func36 (by kernel_rfl) rfl #[.pointer (some ⟨gt,0,none⟩)] (by rfl) rfl rfl (by (try simp only [List.map_toArray,List.map_cons,List.map_nil]);first | done | rfl | (simp only [List.length_drop,List.length_take];rfl)) ?_
  with_reducible refine (write_same key k _ (some ⟨gt,0,none⟩) o2 (HTN.out.below HB.out) HO25.out HWD2.out).mono ?_
  rintro er w12 ⟨A8,c8,rfl,hl8_,hC8_,hb_⟩
  rw [HOB2.out] at hC8_ hl8_
  rw [HOB2.out]
  have HC8:=As.mk hC8_
  clear hC8_ hl8_
  have mHC7_:=As.mk (Kd.C_below HC7.out hb_)
  clear HC7
  have HC7:=mHC7_
  clear mHC7_
  have n0_:=As.mk (bS HB.out hb_)
  clear HB hb_
  have HB:=n0_
  clear n0_
  refine ⟨_,rfl,?_⟩
  refine hK.out _ _ trivial (fun hHeld=>?_)
  clear hK K
  refine norm_ (a':=?_) ?_ ?_
  rotate_left
  ·show Act.put _ (some 72) _ = _
   simp only [Act.put,List.setIfInBounds_toArray,List.set_cons_zero,List.set_cons_succ,i64_w,i32_w]
   rfl
  refine tri_ (i:=10) (j:=13) (h:=17) (Ni:=some 70) (Nj:=some 73) (Nh:=some 77) #[true,true,true,true,true,true,true,true,true,true,true,true,true,false,false,true,true,false,false,false,false] #[true,true,true,true,true,true,true,true,true,true,false,true,true,true,false,true,true,false,false,false,false] #[true,true,true,true,true,true,true,true,true,true,false,true,true,false,false,true,true,true,false,false,false] rfl rfl rfl rfl rfl rfl (tri_of HT_.out (by kernel_rfl)) (by decide) (by decide) (by decide) (fun K hK=>?_) (fun K hK=>?_) (fun K hK=>?_)
  ·have hcv:=Kd.C_string (P:=Tryz.prog) (c:=c7) Tryz.underlying54 Tryz.underlying5 Tryz.underlying9 HC7.out
   refine value_ (w1:=?_) (v:=?_) (by rfl) rfl ?_ ?_
   rotate_left 2
   ·go_simp
    constructor
    ·rfl
    ·rfl
   refine hK.out _ _ trivial (fun hHeld=>?_)
   clear hK K
   refine norm_ (a':=?_) ?_ ?_
   rotate_left
   ·show Act.put _ (some 70) _ = _
    simp only [Act.put,List.setIfInBounds_toArray,List.set_cons_zero,List.set_cons_succ,i64_w,i32_w]
    rfl
   clear hcv
   refine two_ (i:=13) (j:=17) (Ni:=some 73) (Nj:=some 77) #[true,true,true,true,true,true,true,true,true,true,true,true,true,true,false,true,true,false,false,false,false] #[true,true,true,true,true,true,true,true,true,true,true,true,true,false,false,true,true,true,false,false,false] rfl rfl rfl rfl (two_of HT_.out (by kernel_rfl)) (by decide) (by decide) (fun K hK=>?_) (fun K hK=>?_)
   ·have hcv:=Kd.C_string (P:=Tryz.prog) (c:=c8) Tryz.underlying54 Tryz.underlying5 Tryz.underlying9 HC8.out
    refine value_ (w1:=?_) (v:=?_) (by rfl) rfl ?_ ?_
    rotate_left 2
    ·go_simp
     constructor
     ·rfl
     ·rfl
    refine hK.out _ _ trivial (fun hHeld=>?_)
    clear hK K
    refine norm_ (a':=?_) ?_ ?_
    rotate_left
    ·show Act.put _ (some 73) _ = _
     simp only [Act.put,List.setIfInBounds_toArray,List.set_cons_zero,List.set_cons_succ,i64_w,i32_w]
     rfl
    clear hcv
    refine pure_ (i:=14) (N:=some 74) (v:=?_) (a':=?_) #[true,true,true,true,true,true,true,true,true,true,true,true,true,true,true,true,true,false,false,false,false] rfl rfl (any_of HT_.out (by kernel_rfl)) (fun _ _ _ h=>h) (Or.inl ⟨by rfl,?_⟩) ?_ ?_
    rotate_left
    ·intro w'
     go_simp
     with_reducible rfl
    rotate_left
    ·simp only [Act.put,List.setIfInBounds_toArray,List.set_cons_zero,List.set_cons_succ,i64_w,i32_w]
     rfl
    refine one_ (i:=17) (N:=some 77) #[true,true,true,true,true,true,true,true,true,true,true,true,true,true,true,true,true,true,false,false,false] rfl rfl (one_of HT_.out (by kernel_rfl)) (by decide) (fun K hK=>?_)
    refine goes_ Tryz.func34 (by kernel_rfl) rfl #[.pointer (some ⟨gs,0,none⟩),.pointer (some ⟨gt,0,none⟩)] (by rfl) rfl rfl (by (try simp only [List.map_toArray,List.map_cons,List.map_nil]);first | done | rfl | (simp only [List.length_drop,List.length_take];rfl)) ?_
    with_reducible refine (same_gen key sm k _ _ _ o1 o2 bq (HSN.out.below HB.out) (HTN.out.below HB.out) HO11.out HO21.out HDS12.out HEQ.out).mono ?_
    rintro er wq ⟨rfl,hb_⟩
    have n0_:=As.mk (bS HB.out hb_)
    clear HB hb_
    have HB:=n0_
    clear n0_
    refine ⟨_,rfl,?_⟩
    refine hK.out _ _ trivial (fun hHeld=>?_)
    clear hK K
    refine norm_ (a':=?_) ?_ ?_
    rotate_left
    ·show Act.put _ (some 77) _ = _
     simp only [Act.put,List.setIfInBounds_toArray,List.set_cons_zero,List.set_cons_succ,i64_w,i32_w]
     rfl
    refine pure_ (i:=18) (N:=some 78) (v:=?_) (a':=?_) #[true,true,true,true,true,true,true,true,true,true,true,true,true,true,true,true,true,true,true,false,false] rfl rfl (any_of HT_.out (by kernel_rfl)) (fun _ _ _ h=>h) (Or.inl ⟨by rfl,?_⟩) ?_ ?_
    rotate_left
    ·intro w'
     go_simp
     with_reducible rfl
    rotate_left
    ·simp only [Act.put,List.setIfInBounds_toArray,List.set_cons_zero,List.set_cons_succ,i64_w,i32_w]
     rfl
    refine pure_ (i:=19) (N:=some 79) (v:=?_) (a':=?_) #[true,true,true,true,true,true,true,true,true,true,true,true,true,true,true,true,true,true,true,true,false] rfl rfl (any_of HT_.out (by kernel_rfl)) (fun _ _ _ h=>h) (Or.inl ⟨by rfl,?_⟩) ?_ ?_
    rotate_left
    ·intro w'
     go_simp
     with_reducible rfl
    rotate_left
    ·simp only [Act.put,List.setIfInBounds_toArray,List.set_cons_zero,List.set_cons_succ,i64_w,i32_w]
     rfl
    refine pure_ (i:=20) (N:=some 4) (v:=?_) (a':=?_) #[true,true,true,true,true,true,true,true,true,true,true,true,true,true,true,true,true,true,true,true,true] rfl rfl (any_of HT_.out (by kernel_rfl)) (fun _ _ _ h=>h) (Or.inl ⟨by rfl,?_⟩) ?_ ?_
    rotate_left
    ·intro w'
     go_simp
     with_reducible rfl
    rotate_left
    ·simp only [Act.put,List.setIfInBounds_toArray,List.set_cons_zero,List.set_cons_succ,i64_w,i32_w]
     rfl
    refine done_ (done_of HT_.out (by kernel_rfl)) ?_
    go_wp2_with (fail)
    go_ret
    exact ⟨rfl,bS HBW.out HB.out⟩
   ·refine goes_ Tryz.func34 (by kernel_rfl) rfl #[.pointer (some ⟨gs,0,none⟩),.pointer (some ⟨gt,0,none⟩)] (by rfl) rfl rfl (by (try simp only [List.map_toArray,List.map_cons,List.map_nil]);first | done | rfl | (simp only [List.length_drop,List.length_take];rfl)) ?_
    with_reducible refine (same_gen key sm k _ _ _ o1 o2 bq (HSN.out.below HB.out) (HTN.out.below HB.out) HO11.out HO21.out HDS12.out HEQ.out).mono ?_
    rintro er wq ⟨rfl,hb_⟩
    have mHC8_:=As.mk (Kd.C_below HC8.out hb_)
    clear HC8
    have HC8:=mHC8_
    clear mHC8_
    have n0_:=As.mk (bS HB.out hb_)
    clear HB hb_
    have HB:=n0_
    clear n0_
    refine ⟨_,rfl,?_⟩
    refine hK.out _ _ trivial (fun hHeld=>?_)
    clear hK K
    refine norm_ (a':=?_) ?_ ?_
    rotate_left
    ·show Act.put _ (some 77) _ = _
     simp only [Act.put,List.setIfInBounds_toArray,List.set_cons_zero,List.set_cons_succ,i64_w,i32_w]
     rfl
    refine one_ (i:=13) (N:=some 73) #[true,true,true,true,true,true,true,true,true,true,true,true,true,true,false,true,true,true,false,false,false] rfl rfl (one_of HT_.out (by kernel_rfl)) (by decide) (fun K hK=>?_)
    have hcv:=Kd.C_string (P:=Tryz.prog) (c:=c8) Tryz.underlying54 Tryz.underlying5 Tryz.underlying9 HC8.out
    refine value_ (w1:=?_) (v:=?_) (by rfl) rfl ?_ ?_
    rotate_left 2
    ·go_simp
     constructor
     ·rfl
     ·rfl
    refine hK.out _ _ trivial (fun hHeld=>?_)
    clear hK K
    refine norm_ (a':=?_) ?_ ?_
    rotate_left
    ·show Act.put _ (some 73) _ = _
     simp only [Act.put,List.setIfInBounds_toArray,List.set_cons_zero,List.set_cons_succ,i64_w,i32_w]
     rfl
    clear hcv
    refine pure_ (i:=14) (N:=some 74) (v:=?_) (a':=?_) #[true,true,true,true,true,true,true,true,true,true,true,true,true,true,true,true,true,true,false,false,false] rfl rfl (any_of HT_.out (by kernel_rfl)) (fun _ _ _ h=>h) (Or.inl ⟨by rfl,?_⟩) ?_ ?_
    rotate_left
    ·intro w'
     go_simp
     with_reducible rfl
    rotate_left
    ·simp only [Act.put,List.setIfInBounds_toArray,List.set_cons_zero,List.set_cons_succ,i64_w,i32_w]
     rfl
    refine pure_ (i:=18) (N:=some 78) (v:=?_) (a':=?_) #[true,true,true,true,true,true,true,true,true,true,true,true,true,true,true,true,true,true,true,false,false] rfl rfl (any_of HT_.out (by kernel_rfl)) (fun _ _ _ h=>h) (Or.inl ⟨by rfl,?_⟩) ?_ ?_
    rotate_left
    ·intro w'
     go_simp
     with_reducible rfl
    rotate_left
    ·simp only [Act.put,List.setIfInBounds_toArray,List.set_cons_zero,List.set_cons_succ,i64_w,i32_w]
     rfl
    refine pure_ (i:=19) (N:=some 79) (v:=?_) (a':=?_) #[true,true,true,true,true,true,true,true,true,true,true,true,true,true,true,true,true,true,true,true,false] rfl rfl (any_of HT_.out (by kernel_rfl)) (fun _ _ _ h=>h) (Or.inl ⟨by rfl,?_⟩) ?_ ?_
    rotate_left
    ·intro w'
     go_simp
     with_reducible rfl
    rotate_left
    ·simp only [Act.put,List.setIfInBounds_toArray,List.set_cons_zero,List.set_cons_succ,i64_w,i32_w]
     rfl
    refine pure_ (i:=20) (N:=some 4) (v:=?_) (a':=?_) #[true,true,true,true,true,true,true,true,true,true,true,true,true,true,true,true,true,true,true,true,true] rfl rfl (any_of HT_.out (by kernel_rfl)) (fun _ _ _ h=>h) (Or.inl ⟨by rfl,?_⟩) ?_ ?_
    rotate_left
    ·intro w'
     go_simp
     with_reducible rfl
    rotate_left
    ·simp only [Act.put,List.setIfInBounds_toArray,List.set_cons_zero,List.set_cons_succ,i64_w,i32_w]
     rfl
    refine done_ (done_of HT_.out (by kernel_rfl)) ?_
    go_wp2_with (fail)
    go_ret
    exact ⟨rfl,bS HBW.out HB.out⟩
  ·have hcv:=Kd.C_string (P:=Tryz.prog) (c:=c8) Tryz.underlying54 Tryz.underlying5 Tryz.underlying9 HC8.out
   refine value_ (w1:=?_) (v:=?_) (by rfl) rfl ?_ ?_
   rotate_left 2
   ·go_simp
    constructor
    ·rfl
    ·rfl
   refine hK.out _ _ trivial (fun hHeld=>?_)
   clear hK K
   refine norm_ (a':=?_) ?_ ?_
   rotate_left
   ·show Act.put _ (some 73) _ = _
    simp only [Act.put,List.setIfInBounds_toArray,List.set_cons_zero,List.set_cons_succ,i64_w,i32_w]
    rfl
   clear hcv
   refine two_ (i:=10) (j:=17) (Ni:=some 70) (Nj:=some 77) #[true,true,true,true,true,true,true,true,true,true,true,true,true,true,false,true,true,false,false,false,false] #[true,true,true,true,true,true,true,true,true,true,false,true,true,true,false,true,true,true,false,false,false] rfl rfl rfl rfl (two_of HT_.out (by kernel_rfl)) (by decide) (by decide) (fun K hK=>?_) (fun K hK=>?_)
   ·have hcv:=Kd.C_string (P:=Tryz.prog) (c:=c7) Tryz.underlying54 Tryz.underlying5 Tryz.underlying9 HC7.out
    refine value_ (w1:=?_) (v:=?_) (by rfl) rfl ?_ ?_
    rotate_left 2
    ·go_simp
     constructor
     ·rfl
     ·rfl
    refine hK.out _ _ trivial (fun hHeld=>?_)
    clear hK K
    refine norm_ (a':=?_) ?_ ?_
    rotate_left
    ·show Act.put _ (some 70) _ = _
     simp only [Act.put,List.setIfInBounds_toArray,List.set_cons_zero,List.set_cons_succ,i64_w,i32_w]
     rfl
    clear hcv
    refine pure_ (i:=14) (N:=some 74) (v:=?_) (a':=?_) #[true,true,true,true,true,true,true,true,true,true,true,true,true,true,true,true,true,false,false,false,false] rfl rfl (any_of HT_.out (by kernel_rfl)) (fun _ _ _ h=>h) (Or.inl ⟨by rfl,?_⟩) ?_ ?_
    rotate_left
    ·intro w'
     go_simp
     with_reducible rfl
    rotate_left
    ·simp only [Act.put,List.setIfInBounds_toArray,List.set_cons_zero,List.set_cons_succ,i64_w,i32_w]
     rfl
    refine one_ (i:=17) (N:=some 77) #[true,true,true,true,true,true,true,true,true,true,true,true,true,true,true,true,true,true,false,false,false] rfl rfl (one_of HT_.out (by kernel_rfl)) (by decide) (fun K hK=>?_)
    refine goes_ Tryz.func34 (by kernel_rfl) rfl #[.pointer (some ⟨gs,0,none⟩),.pointer (some ⟨gt,0,none⟩)] (by rfl) rfl rfl (by (try simp only [List.map_toArray,List.map_cons,List.map_nil]);first | done | rfl | (simp only [List.length_drop,List.length_take];rfl)) ?_
    with_reducible refine (same_gen key sm k _ _ _ o1 o2 bq (HSN.out.below HB.out) (HTN.out.below HB.out) HO11.out HO21.out HDS12.out HEQ.out).mono ?_
    rintro er wq ⟨rfl,hb_⟩
    have n0_:=As.mk (bS HB.out hb_)
    clear HB hb_
    have HB:=n0_
    clear n0_
    refine ⟨_,rfl,?_⟩
    refine hK.out _ _ trivial (fun hHeld=>?_)
    clear hK K
    refine norm_ (a':=?_) ?_ ?_
    rotate_left
    ·show Act.put _ (some 77) _ = _
     simp only [Act.put,List.setIfInBounds_toArray,List.set_cons_zero,List.set_cons_succ,i64_w,i32_w]
     rfl
    refine pure_ (i:=18) (N:=some 78) (v:=?_) (a':=?_) #[true,true,true,true,true,true,true,true,true,true,true,true,true,true,true,true,true,true,true,false,false] rfl rfl (any_of HT_.out (by kernel_rfl)) (fun _ _ _ h=>h) (Or.inl ⟨by rfl,?_⟩) ?_ ?_
    rotate_left
    ·intro w'
     go_simp
     with_reducible rfl
    rotate_left
    ·simp only [Act.put,List.setIfInBounds_toArray,List.set_cons_zero,List.set_cons_succ,i64_w,i32_w]
     rfl
    refine pure_ (i:=19) (N:=some 79) (v:=?_) (a':=?_) #[true,true,true,true,true,true,true,true,true,true,true,true,true,true,true,true,true,true,true,true,false] rfl rfl (any_of HT_.out (by kernel_rfl)) (fun _ _ _ h=>h) (Or.inl ⟨by rfl,?_⟩) ?_ ?_
    rotate_left
    ·intro w'
     go_simp
     with_reducible rfl
    rotate_left
    ·simp only [Act.put,List.setIfInBounds_toArray,List.set_cons_zero,List.set_cons_succ,i64_w,i32_w]
     rfl
    refine pure_ (i:=20) (N:=some 4) (v:=?_) (a':=?_) #[true,true,true,true,true,true,true,true,true,true,true,true,true,true,true,true,true,true,true,true,true] rfl rfl (any_of HT_.out (by kernel_rfl)) (fun _ _ _ h=>h) (Or.inl ⟨by rfl,?_⟩) ?_ ?_
    rotate_left
    ·intro w'
     go_simp
     with_reducible rfl
    rotate_left
    ·simp only [Act.put,List.setIfInBounds_toArray,List.set_cons_zero,List.set_cons_succ,i64_w,i32_w]
     rfl
    refine done_ (done_of HT_.out (by kernel_rfl)) ?_
    go_wp2_with (fail)
    go_ret
    exact ⟨rfl,bS HBW.out HB.out⟩
   ·refine goes_ Tryz.func34 (by kernel_rfl) rfl #[.pointer (some ⟨gs,0,none⟩),.pointer (some ⟨gt,0,none⟩)] (by rfl) rfl rfl (by (try simp only [List.map_toArray,List.map_cons,List.map_nil]);first | done | rfl | (simp only [List.length_drop,List.length_take];rfl)) ?_
    with_reducible refine (same_gen key sm k _ _ _ o1 o2 bq (HSN.out.below HB.out) (HTN.out.below HB.out) HO11.out HO21.out HDS12.out HEQ.out).mono ?_
    rintro er wq ⟨rfl,hb_⟩
    have mHC7_:=As.mk (Kd.C_below HC7.out hb_)
    clear HC7
    have HC7:=mHC7_
    clear mHC7_
    have n0_:=As.mk (bS HB.out hb_)
    clear HB hb_
    have HB:=n0_
    clear n0_
    refine ⟨_,rfl,?_⟩
    refine hK.out _ _ trivial (fun hHeld=>?_)
    clear hK K
    refine norm_ (a':=?_) ?_ ?_
    rotate_left
    ·show Act.put _ (some 77) _ = _
     simp only [Act.put,List.setIfInBounds_toArray,List.set_cons_zero,List.set_cons_succ,i64_w,i32_w]
     rfl
    refine one_ (i:=10) (N:=some 70) #[true,true,true,true,true,true,true,true,true,true,true,true,true,true,false,true,true,true,false,false,false] rfl rfl (one_of HT_.out (by kernel_rfl)) (by decide) (fun K hK=>?_)
    have hcv:=Kd.C_string (P:=Tryz.prog) (c:=c7) Tryz.underlying54 Tryz.underlying5 Tryz.underlying9 HC7.out
    refine value_ (w1:=?_) (v:=?_) (by rfl) rfl ?_ ?_
    rotate_left 2
    ·go_simp
     constructor
     ·rfl
     ·rfl
    refine hK.out _ _ trivial (fun hHeld=>?_)
    clear hK K
    refine norm_ (a':=?_) ?_ ?_
    rotate_left
    ·show Act.put _ (some 70) _ = _
     simp only [Act.put,List.setIfInBounds_toArray,List.set_cons_zero,List.set_cons_succ,i64_w,i32_w]
     rfl
    clear hcv
    refine pure_ (i:=14) (N:=some 74) (v:=?_) (a':=?_) #[true,true,true,true,true,true,true,true,true,true,true,true,true,true,true,true,true,true,false,false,false] rfl rfl (any_of HT_.out (by kernel_rfl)) (fun _ _ _ h=>h) (Or.inl ⟨by rfl,?_⟩) ?_ ?_
    rotate_left
    ·intro w'
     go_simp
     with_reducible rfl
    rotate_left
    ·simp only [Act.put,List.setIfInBounds_toArray,List.set_cons_zero,List.set_cons_succ,i64_w,i32_w]
     rfl
    refine pure_ (i:=18) (N:=some 78) (v:=?_) (a':=?_) #[true,true,true,true,true,true,true,true,true,true,true,true,true,true,true,true,true,true,true,false,false] rfl rfl (any_of HT_.out (by kernel_rfl)) (fun _ _ _ h=>h) (Or.inl ⟨by rfl,?_⟩) ?_ ?_
    rotate_left
    ·intro w'
     go_simp
     with_reducible rfl
    rotate_left
    ·simp only [Act.put,List.setIfInBounds_toArray,List.set_cons_zero,List.set_cons_succ,i64_w,i32_w]
     rfl
    refine pure_ (i:=19) (N:=some 79) (v:=?_) (a':=?_) #[true,true,true,true,true,true,true,true,true,true,true,true,true,true,true,true,true,true,true,true,false] rfl rfl (any_of HT_.out (by kernel_rfl)) (fun _ _ _ h=>h) (Or.inl ⟨by rfl,?_⟩) ?_ ?_
    rotate_left
    ·intro w'
     go_simp
     with_reducible rfl
    rotate_left
    ·simp only [Act.put,List.setIfInBounds_toArray,List.set_cons_zero,List.set_cons_succ,i64_w,i32_w]
     rfl
    refine pure_ (i:=20) (N:=some 4) (v:=?_) (a':=?_) #[true,true,true,true,true,true,true,true,true,true,true,true,true,true,true,true,true,true,true,true,true] rfl rfl (any_of HT_.out (by kernel_rfl)) (fun _ _ _ h=>h) (Or.inl ⟨by rfl,?_⟩) ?_ ?_
    rotate_left
    ·intro w'
     go_simp
     with_reducible rfl
    rotate_left
    ·simp only [Act.put,List.setIfInBounds_toArray,List.set_cons_zero,List.set_cons_succ,i64_w,i32_w]
     rfl
    refine done_ (done_of HT_.out (by kernel_rfl)) ?_
    go_wp2_with (fail)
    go_ret
    exact ⟨rfl,bS HBW.out HB.out⟩
  ·refine goes_ Tryz.func34 (by kernel_rfl) rfl #[.pointer (some ⟨gs,0,none⟩),.pointer (some ⟨gt,0,none⟩)] (by rfl) rfl rfl (by (try simp only [List.map_toArray,List.map_cons,List.map_nil]);first | done | rfl | (simp only [List.length_drop,List.length_take];rfl)) ?_
   with_reducible refine (same_gen key sm k _ _ _ o1 o2 bq (HSN.out.below HB.out) (HTN.out.below HB.out) HO11.out HO21.out HDS12.out HEQ.out).mono ?_
   rintro er wq ⟨rfl,hb_⟩
   have mHC7_:=As.mk (Kd.C_below HC7.out hb_)
   clear HC7
   have HC7:=mHC7_
   clear mHC7_
   have mHC8_:=As.mk (Kd.C_below HC8.out hb_)
   clear HC8
   have HC8:=mHC8_
   clear mHC8_
   have n0_:=As.mk (bS HB.out hb_)
   clear HB hb_
   have HB:=n0_
   clear n0_
   refine ⟨_,rfl,?_⟩
   refine hK.out _ _ trivial (fun hHeld=>?_)
   clear hK K
   refine norm_ (a':=?_) ?_ ?_
   rotate_left
   ·show Act.put _ (some 77) _ = _
    simp only [Act.put,List.setIfInBounds_toArray,List.set_cons_zero,List.set_cons_succ,i64_w,i32_w]
    rfl
   refine two_ (i:=10) (j:=13) (Ni:=some 70) (Nj:=some 73) #[true,true,true,true,true,true,true,true,true,true,true,true,true,false,false,true,true,true,false,false,false] #[true,true,true,true,true,true,true,true,true,true,false,true,true,true,false,true,true,true,false,false,false] rfl rfl rfl rfl (two_of HT_.out (by kernel_rfl)) (by decide) (by decide) (fun K hK=>?_) (fun K hK=>?_)
   ·have hcv:=Kd.C_string (P:=Tryz.prog) (c:=c7) Tryz.underlying54 Tryz.underlying5 Tryz.underlying9 HC7.out
    refine value_ (w1:=?_) (v:=?_) (by rfl) rfl ?_ ?_
    rotate_left 2
    ·go_simp
     constructor
     ·rfl
     ·rfl
    refine hK.out _ _ trivial (fun hHeld=>?_)
    clear hK K
    refine norm_ (a':=?_) ?_ ?_
    rotate_left
    ·show Act.put _ (some 70) _ = _
     simp only [Act.put,List.setIfInBounds_toArray,List.set_cons_zero,List.set_cons_succ,i64_w,i32_w]
     rfl
    clear hcv
    refine one_ (i:=13) (N:=some 73) #[true,true,true,true,true,true,true,true,true,true,true,true,true,true,false,true,true,true,false,false,false] rfl rfl (one_of HT_.out (by kernel_rfl)) (by decide) (fun K hK=>?_)
    have hcv:=Kd.C_string (P:=Tryz.prog) (c:=c8) Tryz.underlying54 Tryz.underlying5 Tryz.underlying9 HC8.out
    refine value_ (w1:=?_) (v:=?_) (by rfl) rfl ?_ ?_
    rotate_left 2
    ·go_simp
     constructor
     ·rfl
     ·rfl
    refine hK.out _ _ trivial (fun hHeld=>?_)
    clear hK K
    refine norm_ (a':=?_) ?_ ?_
    rotate_left
    ·show Act.put _ (some 73) _ = _
     simp only [Act.put,List.setIfInBounds_toArray,List.set_cons_zero,List.set_cons_succ,i64_w,i32_w]
     rfl
    clear hcv
    refine pure_ (i:=14) (N:=some 74) (v:=?_) (a':=?_) #[true,true,true,true,true,true,true,true,true,true,true,true,true,true,true,true,true,true,false,false,false] rfl rfl (any_of HT_.out (by kernel_rfl)) (fun _ _ _ h=>h) (Or.inl ⟨by rfl,?_⟩) ?_ ?_
    rotate_left
    ·intro w'
     go_simp
     with_reducible rfl
    rotate_left
    ·simp only [Act.put,List.setIfInBounds_toArray,List.set_cons_zero,List.set_cons_succ,i64_w,i32_w]
     rfl
    refine pure_ (i:=18) (N:=some 78) (v:=?_) (a':=?_) #[true,true,true,true,true,true,true,true,true,true,true,true,true,true,true,true,true,true,true,false,false] rfl rfl (any_of HT_.out (by kernel_rfl)) (fun _ _ _ h=>h) (Or.inl ⟨by rfl,?_⟩) ?_ ?_
    rotate_left
    ·intro w'
     go_simp
     with_reducible rfl
    rotate_left
    ·simp only [Act.put,List.setIfInBounds_toArray,List.set_cons_zero,List.set_cons_succ,i64_w,i32_w]
     rfl
    refine pure_ (i:=19) (N:=some 79) (v:=?_) (a':=?_) #[true,true,true,true,true,true,true,true,true,true,true,true,true,true,true,true,true,true,true,true,false] rfl rfl (any_of HT_.out (by kernel_rfl)) (fun _ _ _ h=>h) (Or.inl ⟨by rfl,?_⟩) ?_ ?_
    rotate_left
    ·intro w'
     go_simp
     with_reducible rfl
    rotate_left
    ·simp only [Act.put,List.setIfInBounds_toArray,List.set_cons_zero,List.set_cons_succ,i64_w,i32_w]
     rfl
    refine pure_ (i:=20) (N:=some 4) (v:=?_) (a':=?_) #[true,true,true,true,true,true,true,true,true,true,true,true,true,true,true,true,true,true,true,true,true] rfl rfl (any_of HT_.out (by kernel_rfl)) (fun _ _ _ h=>h) (Or.inl ⟨by rfl,?_⟩) ?_ ?_
    rotate_left
    ·intro w'
     go_simp
     with_reducible rfl
    rotate_left
    ·simp only [Act.put,List.setIfInBounds_toArray,List.set_cons_zero,List.set_cons_succ,i64_w,i32_w]
     rfl
    refine done_ (done_of HT_.out (by kernel_rfl)) ?_
    go_wp2_with (fail)
    go_ret
    exact ⟨rfl,bS HBW.out HB.out⟩
   ·have hcv:=Kd.C_string (P:=Tryz.prog) (c:=c8) Tryz.underlying54 Tryz.underlying5 Tryz.underlying9 HC8.out
    refine value_ (w1:=?_) (v:=?_) (by rfl) rfl ?_ ?_
    rotate_left 2
    ·go_simp
     constructor
     ·rfl
     ·rfl
    refine hK.out _ _ trivial (fun hHeld=>?_)
    clear hK K
    refine norm_ (a':=?_) ?_ ?_
    rotate_left
    ·show Act.put _ (some 73) _ = _
     simp only [Act.put,List.setIfInBounds_toArray,List.set_cons_zero,List.set_cons_succ,i64_w,i32_w]
     rfl
    clear hcv
    refine one_ (i:=10) (N:=some 70) #[true,true,true,true,true,true,true,true,true,true,true,true,true,true,false,true,true,true,false,false,false] rfl rfl (one_of HT_.out (by kernel_rfl)) (by decide) (fun K hK=>?_)
    have hcv:=Kd.C_string (P:=Tryz.prog) (c:=c7) Tryz.underlying54 Tryz.underlying5 Tryz.underlying9 HC7.out
    refine value_ (w1:=?_) (v:=?_) (by rfl) rfl ?_ ?_
    rotate_left 2
    ·go_simp
     constructor
     ·rfl
     ·rfl
    refine hK.out _ _ trivial (fun hHeld=>?_)
    clear hK K
    refine norm_ (a':=?_) ?_ ?_
    rotate_left
    ·show Act.put _ (some 70) _ = _
     simp only [Act.put,List.setIfInBounds_toArray,List.set_cons_zero,List.set_cons_succ,i64_w,i32_w]
     rfl
    clear hcv
    refine pure_ (i:=14) (N:=some 74) (v:=?_) (a':=?_) #[true,true,true,true,true,true,true,true,true,true,true,true,true,true,true,true,true,true,false,false,false] rfl rfl (any_of HT_.out (by kernel_rfl)) (fun _ _ _ h=>h) (Or.inl ⟨by rfl,?_⟩) ?_ ?_
    rotate_left
    ·intro w'
     go_simp
     with_reducible rfl
    rotate_left
    ·simp only [Act.put,List.setIfInBounds_toArray,List.set_cons_zero,List.set_cons_succ,i64_w,i32_w]
     rfl
    refine pure_ (i:=18) (N:=some 78) (v:=?_) (a':=?_) #[true,true,true,true,true,true,true,true,true,true,true,true,true,true,true,true,true,true,true,false,false] rfl rfl (any_of HT_.out (by kernel_rfl)) (fun _ _ _ h=>h) (Or.inl ⟨by rfl,?_⟩) ?_ ?_
    rotate_left
    ·intro w'
     go_simp
     with_reducible rfl
    rotate_left
    ·simp only [Act.put,List.setIfInBounds_toArray,List.set_cons_zero,List.set_cons_succ,i64_w,i32_w]
     rfl
    refine pure_ (i:=19) (N:=some 79) (v:=?_) (a':=?_) #[true,true,true,true,true,true,true,true,true,true,true,true,true,true,true,true,true,true,true,true,false] rfl rfl (any_of HT_.out (by kernel_rfl)) (fun _ _ _ h=>h) (Or.inl ⟨by rfl,?_⟩) ?_ ?_
    rotate_left
    ·intro w'
     go_simp
     with_reducible rfl
    rotate_left
    ·simp only [Act.put,List.setIfInBounds_toArray,List.set_cons_zero,List.set_cons_succ,i64_w,i32_w]
     rfl
    refine pure_ (i:=20) (N:=some 4) (v:=?_) (a':=?_) #[true,true,true,true,true,true,true,true,true,true,true,true,true,true,true,true,true,true,true,true,true] rfl rfl (any_of HT_.out (by kernel_rfl)) (fun _ _ _ h=>h) (Or.inl ⟨by rfl,?_⟩) ?_ ?_
    rotate_left
    ·intro w'
     go_simp
     with_reducible rfl
    rotate_left
    ·simp only [Act.put,List.setIfInBounds_toArray,List.set_cons_zero,List.set_cons_succ,i64_w,i32_w]
     rfl
    refine done_ (done_of HT_.out (by kernel_rfl)) ?_
    go_wp2_with (fail)
    go_ret
    exact ⟨rfl,bS HBW.out HB.out⟩
end Go.Proofs.YtmlebgikdegjjaaGreatDoor.Hd
