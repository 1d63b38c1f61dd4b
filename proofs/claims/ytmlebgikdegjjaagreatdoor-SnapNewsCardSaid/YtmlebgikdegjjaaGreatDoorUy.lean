/- SnapNews, walked. -/
import Derived.Test.YtmlebgikdegjjaaGreatDoorUx
import Derived.Test.YtmlebgikdegjjaaGreatDoorUw
import Derived.Test.YtmlebgikdegjjaaGreatDoorUv
import Derived.Test.YtmlebgikdegjjaaGreatDoorPAllx3
import Derived.Test.YtmlebgikdegjjaaGreatDoorPAllx7
import Derived.Test.YtmlebgikdegjjaaGreatDoorPAllx7
import Derived.Test.YtmlebgikdegjjaaGreatDoorPAllx17
import Derived.Test.YtmlebgikdegjjaaGreatDoorPAllx8
import Derived.Test.YtmlebgikdegjjaaGreatDoorPAllx16
set_option maxHeartbeats 16000000
set_option maxRecDepth 100000
namespace Go.Proofs.YtmlebgikdegjjaaGreatDoor.Hd
open Go.Maps Go.RowKit Go.Proofs.YtmlebgikdegjjaaGreatDoorW.PrintWords Go.Proofs.YtmlebgikdegjjaaGreatDoorW.PrintLast Go.Proofs.YtmlebgikdegjjaaGreatDoorW.PrintMore Go.Proofs.YtmlebgikdegjjaaGreatDoor.PAll
attribute [local go_sem] max2_int min2_int max_two min_two max_three min_three max_four min_four
set_option linter.unusedVariables false
set_option linter.unusedSimpArgs false
theorem equal_self (sm : S34 → S34 → Bool) {M : DataW S34} (hc : Maps.Canon M) (he : ∀ k,Maps.has M k = true → ∃ d,∀ z,M.atKey k z = .held d) (h : ∀ x,ElemOf M x → sm x x = true) : equalM sm M M = true:=by
 obtain ⟨ms,rfl,hp,hk⟩:=hc
 unfold equalM Lib.equalFuncD
 rw [decide_eq_true rfl,Bool.true_and]
 refine List.all_eq_true.2 (fun p hp1=>?_)
 have hat:=WideAt.atKey_mem (.nil : DataW S34) (hk p hp1) (apart_of_rising hp) hp1
 have hhas : Maps.has (.map ms) p.1 = true:=List.any_eq_true.2 ⟨p,hp1,WideAt.sameKey_self (hk p hp1)⟩
 obtain ⟨d,hd⟩:=he p.1 hhas
 have hpd : p.2 = .held d:=hat.symm.trans (hd .nil)
 show (Maps.has (.map ms) p.1 && eqS sm p.2 ((DataW.map ms).atKey p.1 .nil)) = true
 rw [hhas,hat,hpd,Bool.true_and]
 exact h d ⟨p.1,hd⟩
theorem elem_mapK {key : S34 → ByteArray} {out : List S34} {x : S34} (h : ElemOf (mapK key out) x) : x ∈ out:=by
 obtain ⟨kl,hk⟩:=h
 have h0:=hk .nil
 unfold mapK at h0
 rw [atKey_find] at h0
 cases hf : (out.map (entK key)).find? fun p=>p.1.sameKey kl with
 | none=>rw [hf] at h0;cases h0
 | some p =>
  rw [hf] at h0
  have h1 : p.2 = .held x:=h0
  obtain ⟨y,hy,rfl⟩:=List.mem_map.1 (List.mem_of_find?_eq_some hf)
  have h2 : (DataW.held y : DataW S34) = .held x:=h1
  injection h2 with h2
  rw [← h2]
  exact hy
theorem same_self (key : S34 → ByteArray) (sm : S34 → S34 → Bool) (k : Nat) (w : World) (v1 v2 : Value) (out : List S34) (h1 : SnR w v1 (mapK key out)) (h2 : SnR w v2 (mapK key out)) (hl : out.length ≤ 1000)
  (hsm : ∀ x ∈ out,∀ y ∈ out,def_Same.f k x.f0 x.f1 x.f2 x.f3 x.f4 x.f5 y.f0 y.f1 y.f2 y.f3 y.f4 y.f5 = some (sm x y)) (hself : ∀ x ∈ out,sm x x = true) :
  Calls Tryz.prog 34 #[v1,v2] w fun e w'=>e = .returned (.bool true) ∧ Below w.heap.size w w':=by
 have h3:=same_calls sm k w v1 v2 (mapK key out) (mapK key out) h1 h2 (by rw [size_mapK];omega) (by rw [size_mapK];omega) (fun x y hx hy=>hsm x (elem_mapK hx) y (elem_mapK hy))
 obtain ⟨_,_,_,_,hm⟩:=h1
 rw [equal_self sm hm.canon hm.elems_ (fun x hx=>hself x (elem_mapK hx))] at h3
 exact h3
theorem write_same (key : S34 → ByteArray) (k : Nat) (w : World) (p : Option Addr) (out : List S34) (h : SnR w (.pointer p) (mapK key out)) (hl : out.length ≤ 500) (hd : ∀ d ∈ out,Wok k d) :
  Calls Tryz.prog 36 #[.pointer p] w fun e w'=>∃ A3 c3,e = .returned (.slice A3 (snapO out).length c3) ∧ (snapO out).length ≤ c3 ∧ Kd.C (Kd.int .u8) w' A3 (snapO out).length (snapO out) ∧ Below w.heap.size w w':=by
 have h1:=write_calls k w p (mapK key out) h (by rw [size_mapK];exact hl) (by rw [vals_mapK];exact hd)
 rw [vals_mapK] at h1
 refine h1.mono ?_
 rintro e w' ⟨vv,rfl,hR,hb⟩
 obtain ⟨A3,c3,rfl,hl3,hC3⟩:=Kd.R_reads hR
 exact ⟨A3,c3,rfl,hl3,hC3,hb⟩
theorem at_mapK {key : S34 → ByteArray} {out : List S34} (hr : Ris key out) {j : Nat} (hj : j < out.length) {z : DataW S34} : (mapK key out).atKey (KL (key out[j])) z = .held out[j]:=by
 unfold mapK
 rw [atKey_find]
 cases hf : (out.map (entK key)).find? fun p=>p.1.sameKey (KL (key out[j])) with
 | none =>
  have h1:=List.find?_eq_none.1 hf (entK key out[j]) (List.mem_map.2 ⟨_,List.getElem_mem hj,rfl⟩)
  refine absurd ?_ h1
  show (KL (key out[j])).sameKey (KL (key out[j])) = true
  rw [same_KL]
  exact decide_eq_true rfl
 | some p =>
  obtain ⟨y,hy,rfl⟩:=List.mem_map.1 (List.mem_of_find?_eq_some hf)
  have h1:=List.find?_some hf
  have h2 : (KL (key y)).sameKey (KL (key out[j])) = true:=h1
  rw [same_KL] at h2
  rw [ris_key hr hy (List.getElem_mem hj) (of_decide_eq_true h2)]
  rfl
theorem news_few (k : Nat) (key : S34 → ByteArray) (A0 : Option Addr) (c0 : Nat) (l : List S34) (ks : ByteArray) (turn : Int) (w : World) (hr0 : Kd.C k34 w A0 l.length l) (hc0 : l.length ≤ c0) (h1 : r07_Few.f k l 20 = some false) :
  Calls Tryz.prog 5 #[.slice A0 l.length c0,.string ks,.int .i64 turn] w fun e w'=>e = .returned (.bool true) ∧ Below w.heap.size w w':=by
 have HC0:=As.mk hc0
 have HR0:=As.mk hr0
 have HF1:=As.mk h1
 have HB:=As.mk (Below.refl w.heap.size w)
 clear hc0 hr0 h1
 go_enter Tryz.func5,Tryz.ntmps5
 go_wp2_with (first | (go_at_call 15;(with_reducible refine (awake_calls _).mono ?_);rintro e wa ⟨rfl,hb_⟩;have n0_:=As.mk (bS (by repeat (first | (with_reducible first | exact HB.out | apply bA | apply bN | apply bD) | exact HB.out)) hb_);clear HB hb_;have HB:=n0_;clear n0_) | (go_at_call 16;(with_reducible refine (r07_Few.calls k A0 c0 l 20 _ _ ?s1 HC0.out HF1.out).mono ?_);(case s1=>exact Kd.C_below HR0.out (by repeat (first | (with_reducible first | exact HB.out | apply bA | apply bN | apply bD) | exact HB.out)));rintro e wb ⟨rfl,hb_⟩;have n0_:=As.mk (bS (by repeat (first | (with_reducible first | exact HB.out | apply bA | apply bN | apply bD) | exact HB.out)) hb_);clear HB hb_;have HB:=n0_;clear n0_))
 go_ret
 exact ⟨rfl,(by repeat (first | (with_reducible first | exact HB.out | apply bA | apply bN | apply bD) | exact HB.out))⟩
theorem news_long (k : Nat) (key : S34 → ByteArray) (A0 : Option Addr) (c0 : Nat) (l : List S34) (ks : ByteArray) (turn : Int) (w : World) (hr0 : Kd.C k34 w A0 l.length l) (hc0 : l.length ≤ c0) (h1 : r07_Few.f k l 20 = some true) (hn : ¬ ks.size ≤ 700) :
  Calls Tryz.prog 5 #[.slice A0 l.length c0,.string ks,.int .i64 turn] w fun e w'=>e = .returned (.bool true) ∧ Below w.heap.size w w':=by
 have HC0:=As.mk hc0
 have HR0:=As.mk hr0
 have HF1:=As.mk h1
 have HB:=As.mk (Below.refl w.heap.size w)
 have ca_ : decide ((700 : Int) < (ks.size : Int)) = true:=decide_eq_true (by omega)
 have cb_ : ((700 : Int) < (ks.size : Int)) = True:=eq_true (by omega)
 clear hc0 hr0 h1 hn
 go_enter Tryz.func5,Tryz.ntmps5
 go_wp2_with (first | (go_at_call 15;(with_reducible refine (awake_calls _).mono ?_);rintro e wa ⟨rfl,hb_⟩;have n0_:=As.mk (bS (by repeat (first | (with_reducible first | exact HB.out | apply bA | apply bN | apply bD) | exact HB.out)) hb_);clear HB hb_;have HB:=n0_;clear n0_) | (go_at_call 16;(with_reducible refine (r07_Few.calls k A0 c0 l 20 _ _ ?s1 HC0.out HF1.out).mono ?_);(case s1=>exact Kd.C_below HR0.out (by repeat (first | (with_reducible first | exact HB.out | apply bA | apply bN | apply bD) | exact HB.out)));rintro e wb ⟨rfl,hb_⟩;have n0_:=As.mk (bS (by repeat (first | (with_reducible first | exact HB.out | apply bA | apply bN | apply bD) | exact HB.out)) hb_);clear HB hb_;have HB:=n0_;clear n0_))
 go_ret
 exact ⟨rfl,(by repeat (first | (with_reducible first | exact HB.out | apply bA | apply bN | apply bD) | exact HB.out))⟩
theorem news_bad (k : Nat) (key : S34 → ByteArray) (A0 : Option Addr) (c0 : Nat) (l : List S34) (ks : ByteArray) (turn : Int) (w : World) (hr0 : Kd.C k34 w A0 l.length l) (hc0 : l.length ≤ c0) (h1 : r07_Few.f k l 20 = some true) (hn : ks.size ≤ 700) (hln : l.length ≤ 20)
  (hkey : ∀ d ∈ l,def_Key.f k d.f0 d.f1 d.f2 d.f3 d.f4 d.f5 = some (key d) ∧ (key d).size ≤ 1000000 ∧ d.f3.length ≤ 1000000) (en : Int) (M0 : DataW S34) (hng : newGo key l (.map []) = (M0,en)) (out : List S34) (hrn : r08_New.f k l = some (out,en)) (he : en ≠ 0) :
  Calls Tryz.prog 5 #[.slice A0 l.length c0,.string ks,.int .i64 turn] w fun e w'=>e = .returned (.bool true) ∧ Below w.heap.size w w':=by
 have HC0:=As.mk hc0
 have HR0:=As.mk hr0
 have HF1:=As.mk h1
 have HLN4:=As.mk (show l.length ≤ 400 by omega)
 have HKEY:=As.mk hkey
 have HNG:=As.mk hng
 obtain ⟨rn,hrn_⟩ : ∃ rn,rn = en:=⟨_,rfl⟩
 rw [← hrn_] at hrn
 have HRN:=As.mk hrn
 have HB:=As.mk (Below.refl w.heap.size w)
 have ca_ : decide ((700 : Int) < (ks.size : Int)) = false:=decide_eq_false (by omega)
 have cb_ : ((700 : Int) < (ks.size : Int)) = False:=eq_false (by omega)
 have z1 : (en != rn) = false:=by rw [hrn_];exact bne_self_eq_false _
 have z2 : (rn == 0) = false:=by rw [hrn_];exact beq_eq_false_iff_ne.mpr he
 have z3 : (rn != 0) = true:=by rw [hrn_];exact bne_iff_ne.mpr he
 have HE:=As.mk he
 clear hc0 hr0 h1 hn hln hkey hng hrn he hrn_
 go_enter Tryz.func5,Tryz.ntmps5
 go_upto_region 5 with (first | (go_at_call 15;(with_reducible refine (awake_calls _).mono ?_);rintro e wa ⟨rfl,hb_⟩;have n0_:=As.mk (bS (by repeat (first | (with_reducible first | exact HB.out | apply bA | apply bN | apply bD) | exact HB.out)) hb_);clear HB hb_;have HB:=n0_;clear n0_) | (go_at_call 16;(with_reducible refine (r07_Few.calls k A0 c0 l 20 _ _ ?s1 HC0.out HF1.out).mono ?_);(case s1=>exact Kd.C_below HR0.out (by repeat (first | (with_reducible first | exact HB.out | apply bA | apply bN | apply bD) | exact HB.out)));rintro e wb ⟨rfl,hb_⟩;have n0_:=As.mk (bS (by repeat (first | (with_reducible first | exact HB.out | apply bA | apply bN | apply bD) | exact HB.out)) hb_);clear HB hb_;have HB:=n0_;clear n0_) | (go_at_call 17;(with_reducible refine (new_gen key k A0 c0 l _ M0 en ?s1 HC0.out HLN4.out HKEY.out HNG.out).mono ?_);(case s1=>exact Kd.C_below HR0.out (by repeat (first | (with_reducible first | exact HB.out | apply bA | apply bN | apply bD) | exact HB.out)));rintro e w3 ⟨p0,rfl,hg_,hbad_,hb_⟩;have HSG:=As.mk hg_;have HSB:=As.mk hbad_;have n0_:=As.mk (bS (by repeat (first | (with_reducible first | exact HB.out | apply bA | apply bN | apply bD) | exact HB.out)) hb_);clear HB hb_;have HB:=n0_;clear n0_;clear hg_ hbad_) | (go_at_call 18;(with_reducible refine (r08_New.calls k (fun _=>True) A0 c0 l out rn _ ?s1 HRN.out).mono ?_);(case s1=>exact V_of_C (Kd.C_below HR0.out (by repeat (first | (with_reducible first | exact HB.out | apply bA | apply bN | apply bD) | exact HB.out))) HC0.out);rintro e w4 ⟨vw,rfl,hN_,hb_⟩;obtain ⟨Aw,cw,rfl,hV_⟩:=VT (base':=0) hN_;have HV:=As.mk hV_;have mHSG_:=As.mk (fun h_ : en = 0=>(HSG.out h_).below hb_);clear HSG;have HSG:=mHSG_;clear mHSG_;have n0_:=As.mk (bS (by repeat (first | (with_reducible first | exact HB.out | apply bA | apply bN | apply bD) | exact HB.out)) hb_);clear HB hb_;have HB:=n0_;clear n0_;clear hN_ hV_))
 obtain rfl:=HSB.out HE.out
 go_wp2_with (fail)
 go_ret
 exact ⟨rfl,(by repeat (first | (with_reducible first | exact HB.out | apply bA | apply bN | apply bD) | exact HB.out))⟩
end Go.Proofs.YtmlebgikdegjjaaGreatDoor.Hd
