/- Snapshots with keys dropped, and with a definition put. -/
import Derived.Test.YtmlebgikdegjjaaGreatDoorSb
import Derived.Test.YtmlebgikdegjjaaGreatDoorPAllx2
import Derived.Test.YtmlebgikdegjjaaGreatDoorPAllx2
set_option maxHeartbeats 16000000
set_option maxRecDepth 100000
namespace Go.Proofs.YtmlebgikdegjjaaGreatDoor.Hd
open Go.Maps Go.RowKit Go.Proofs.YtmlebgikdegjjaaGreatDoorW.PrintWords Go.Proofs.YtmlebgikdegjjaaGreatDoorW.PrintLast Go.Proofs.YtmlebgikdegjjaaGreatDoorW.PrintMore Go.Proofs.YtmlebgikdegjjaaGreatDoor.PAll
attribute [local go_sem] max2_int min2_int max_two min_two max_three min_three max_four min_four
set_option linter.unusedVariables false
set_option linter.unusedSimpArgs false
def dropM (M : DataW S34) (keys : List ByteArray) : DataW S34:=keys.foldl (fun M s=>M.del (KL s)) M
theorem dropM_take {M : DataW S34} {keys : List ByteArray} {x : Nat} (hx : x < keys.length) : dropM M (keys.take (x + 1)) = (dropM M (keys.take x)).del (KL keys[x]):=by
 unfold dropM
 rw [List.take_succ_eq_append_getElem hx,List.foldl_append]
 rfl
theorem nonempty_ {s : ByteArray} (h : 0 < s.size) : (s.toList == ([] : List UInt8)) = false:=beq_eq_false_iff_ne.mpr (fun e=>by
 rw [Lib.toList_data] at e
 have h2:=congrArg List.length e
 rw [Array.length_toList] at h2
 have h3 : s.size = 0:=h2
 omega)
theorem rdOf_at (l : List ByteArray) (x : Nat) (hx : x < l.length) : rdOf ByteArray.empty l (x : Int) = l[x]:=by
 unfold rdOf
 rw [Int.toNat_natCast,List.getD_eq_getElem?_getD,List.getElem?_eq_getElem hx]
 rfl
theorem drop_calls (w : World) (v : Value) (M : DataW S34) (A1 : Option Addr) (c1 : Nat) (keys : List ByteArray) (h : Sn w v M) (hroom : Maps.size M ≤ 1000) (hr1 : Kd.C Kd.string w A1 keys.length keys) (hc1 : keys.length ≤ c1) (hk : ∀ s ∈ keys,s.size ≤ 1000000) (hl : keys.length ≤ 1000000) :
  Calls Tryz.prog 20 #[v,.slice A1 keys.length c1] w fun e w'=>∃ vv,e = .returned vv ∧ SnF w' w.heap.size vv (dropM M keys) ∧ Below w.heap.size w w':=by
 have HS:=As.mk h
 have HR1:=As.mk hr1
 have HKS:=As.mk hk
 have HLK:=As.mk hl
 clear h hr1 hk hl
 go_enter Tryz.func20,Tryz.ntmps20
 go_wp2_with (first | (go_at_call 63;(with_reducible refine (copied_calls _ v M HS.out hroom).mono ?_);rintro e w1 ⟨gp,rfl,⟨gp',bp,he_,hcz,hm_,hg_,hb2_⟩,hb_⟩;cases he_;have HM:=As.mk hm_;have HCZ:=As.mk hcz;have HB:=As.mk hb_;have HBP:=As.mk hb2_;have HGP:=As.mk hg_;clear hm_ hcz hb_ hb2_ hg_))
 go_loopg [12] keys.length (fun kq v12 w'=>∃ (x : Nat),v12 = .int .i64 (x : Int) ∧ x ≤ keys.length ∧ As (kq + x = keys.length) ∧ As (MapD w' bp (dropM M (keys.take x))) ∧ As (w'.cell? ⟨gp,0,none⟩ = some (.map (some bp))) ∧ As (Below w.heap.size w w'))
 case atStart=>exact ⟨0,rfl,Nat.zero_le _,⟨rfl⟩,⟨HM.out⟩,⟨HCZ.out⟩,⟨(by repeat (first | (with_reducible first | exact HB.out | apply bA | apply bN | apply bD) | exact HB.out))⟩⟩
 case round =>
  clear HB HM HCZ
  obtain ⟨x,rfl,p1,HKQ,HM,HCZ,HB⟩:=hrel
  by_cases hlt : x < keys.length
  ·have c0_ : decide ((x : Int) < (keys.length : Int)) = true:=decide_eq_true (by omega)
   have hw1 : wrap64 ((x : Int) + 1) = ((x + 1 : Nat) : Int):=by rw [IntWalk.wrap64_in _ (by have:=HLK.out;omega)];omega
   have HKX:=As.mk (show (keys[x]).size ≤ maxLen from Nat.le_trans (HKS.out _ (List.getElem_mem hlt)) (by decide))
   obtain ⟨ad,e_,q0⟩:=Kd.at_string HR1.out (x : Int) (by omega) (by omega)
   rw [rdOf_at keys x hlt,Int.toNat_natCast] at q0
   subst e_
   replace q0:=(HB.out.cell (World.block_lt_of_cell? w _ q0)).trans q0
   have p1_ : ((x : Int) < (keys.length : Int)) = True:=eq_true (by omega)
   have p2_ : (x < keys.length) = True:=eq_true hlt
   have hcz_0:=HCZ.out
   have HLT:=As.mk hlt
   go_wp2_with (first | (at_delete;refine del_event rfl _ _ rfl bp _ keys[x] rfl rfl HKX.out HM.out ?_;intro w2 hm2 hg2 hk2;have n0_:=As.mk hm2;have n1_:=As.mk (hk2 _ _ HCZ.out);have n2_:=As.mk (below_own HB.out HB.out.size hg2 HBP.out);clear HM HCZ HB hm2 hg2 hk2;have HM:=n0_;have HCZ:=n1_;have HB:=n2_;clear n0_ n1_ n2_))
   go_roundg (gk - 1)
   case measure=>have:=HKQ.out;have:=HLT.out;omega
   case rel=>exact ⟨x + 1,(by first | rfl | rw [hw1]),HLT.out,⟨by have:=HKQ.out;have:=HLT.out;omega⟩,⟨by rw [dropM_take HLT.out];exact HM.out⟩,⟨HCZ.out⟩,⟨HB.out⟩⟩
  ·have c0_ : decide ((x : Int) < (keys.length : Int)) = false:=decide_eq_false (by omega)
   obtain rfl : x = keys.length:=by omega
   go_wp2_with (fail)
   go_ret
   have hm:=HM.out
   rw [List.take_length] at hm
   exact ⟨_,rfl,⟨gp,bp,rfl,HCZ.out,hm,HGP.out,HBP.out⟩,HB.out⟩
theorem clone_calls (w : World) (d : S34) (A2 : Option Addr) (c2 : Nat) (hc2 : d.f3.length ≤ c2) (hr2 : Kd.string.C w A2 d.f3.length d.f3) (hl : d.f3.length ≤ 1000000) :
  Calls Tryz.prog 61 #[.agg #[.int .i64 d.f0,.string d.f1,.string d.f2,.slice A2 d.f3.length c2,.string d.f4,.string d.f5]] w fun e w'=>∃ A3 c3,e = .returned (.agg #[.int .i64 d.f0,.string d.f1,.string d.f2,.slice A3 d.f3.length c3,.string d.f4,.string d.f5]) ∧ d.f3.length ≤ c3 ∧ Kd.string.C w' A3 d.f3.length d.f3 ∧ Below w.heap.size w w':=by
 refine (snap_clone.calls d.f0 d.f1 d.f2 A2 c2 d.f3 d.f4 d.f5 d.f0 d.f1 d.f2 d.f3 d.f4 d.f5 w hr2 hc2 ?_).mono ?_
 ·unfold snap_clone.f slices_Clone_string_string.f
  rw [if_pos (by omega),Option.bind_some]
 ·rintro e w' ⟨v3,rfl,ho,hb⟩
  obtain ⟨A3,c3,rfl,hl3,hC3⟩:=Kd.R_reads ho
  exact ⟨A3,c3,rfl,hl3,hC3,hb⟩
def snapput.T8 : Bool × List (List Nat × List Nat):=(true,[([],[]),([0],[0]),([1],[1]),([2],[2]),([],[]),([],[]),([5],[5]),([3,4,6,6,0,1,2,3,4,5,6],[3,4,6])])
def snapput.B8 : List Nat:=[0,1,3,7,0,0,32,127]
theorem snapput.tab8 : rtab .any (opsOf Tryz.f23 8) = snapput.T8:=by kernel_rfl
theorem snapput.bits8 : waitsOk snapput.T8.2 snapput.B8 = true:=by kernel_rfl
theorem put_ok (k : Nat) (w : World) (v : Value) (M : DataW S34) (d : S34) (A2 : Option Addr) (c2 : Nat) (ky : ByteArray) (h : Sn w v M) (hc2 : d.f3.length ≤ c2) (hr2 : Kd.string.C w A2 d.f3.length d.f3) (hky : def_Key.f k d.f0 d.f1 d.f2 d.f3 d.f4 d.f5 = some ky) (h0 : 0 < ky.size) (hks : ky.size ≤ 1000000) (hlv : d.f3.length ≤ 1000000) (hsz : Maps.size M < 500) :
  Calls Tryz.prog 23 #[v,.agg #[.int .i64 d.f0,.string d.f1,.string d.f2,.slice A2 d.f3.length c2,.string d.f4,.string d.f5]] w fun e w'=>∃ vv,e = .returned (.tuple #[vv,.int .i64 0]) ∧ SnF w' w.heap.size vv (M.put (KL ky) (.held d)) ∧ Below w.heap.size w w':=by
 have HS:=As.mk h
 have HKS:=As.mk (show ky.size ≤ maxLen from Nat.le_trans hks (by decide))
 have HSZ:=As.mk hsz
 have HLV:=As.mk hlv
 have z1 : (ky.toList == ([] : List UInt8)) = false:=nonempty_ h0
 have hlf : (((Maps.size M : Nat) : Int) == 500) = false:=beq_eq_false_iff_ne.mpr (by omega)
 have hlf2 : decide (((Maps.size M : Nat) : Int) = 500) = false:=decide_eq_false (by omega)
 rcases h with ⟨rfl,rfl⟩ | ⟨gs,bs,rfl,hcs,hms⟩
 ·clear hks hlv hsz
  have hu34:=Tryz.underlying34
  have HC2:=As.mk hr2
  have HL2:=As.mk hc2
  have HKY:=As.mk hky
  clear hr2 hc2 hky
  go_enter Tryz.func23,Tryz.ntmps23
  go_upto_region 1 with (fail)
  have bk_:=blk_new w (Obj.cells #[.int .i64 d.f0,.string d.f1,.string d.f2,.slice A2 d.f3.length c2,.string d.f4,.string d.f5] 34)
  have hb_:=bA (Below.refl w.heap.size w) (Obj.cells #[.int .i64 d.f0,.string d.f1,.string d.f2,.slice A2 d.f3.length c2,.string d.f4,.string d.f5] 34)
  generalize w.alloc (Obj.cells #[.int .i64 d.f0,.string d.f1,.string d.f2,.slice A2 d.f3.length c2,.string d.f4,.string d.f5] 34) = W1 at bk_ hb_ ⊢
  obtain ⟨gq,hgq⟩ : ∃ gq,gq = w.heap.size:=⟨_,rfl⟩
  rw [← hgq] at bk_ ⊢
  have HB:=As.mk hb_
  have HQB:=As.mk (Below.refl W1.heap.size W1)
  have BKQ:=As.mk bk_
  have HGQ:=As.mk hgq
  clear hb_ bk_ hgq
  have hq_0 : W1.cell? ⟨gq,0,none⟩ = some (.int .i64 d.f0):=(bC BKQ.out 0).trans rfl
  have hq_1 : W1.cell? ⟨gq,1,none⟩ = some (.string d.f1):=(bC BKQ.out 1).trans rfl
  have hq_2 : W1.cell? ⟨gq,2,none⟩ = some (.string d.f2):=(bC BKQ.out 2).trans rfl
  have hq_3 : W1.cell? ⟨gq,3,none⟩ = some (.slice A2 d.f3.length c2):=(bC BKQ.out 3).trans rfl
  have hq_4 : W1.cell? ⟨gq,4,none⟩ = some (.string d.f4):=(bC BKQ.out 4).trans rfl
  have hq_5 : W1.cell? ⟨gq,5,none⟩ = some (.string d.f5):=(bC BKQ.out 5).trans rfl
  go_upto_region 8 with (first | (go_at_call 60;(with_reducible refine (def_Key.calls k d.f0 d.f1 d.f2 A2 c2 d.f3 d.f4 d.f5 ky _ ?s1 HL2.out HKY.out).mono ?_);(case s1=>exact Kd.C_below HC2.out (by repeat (first | (with_reducible first | exact HB.out | apply bA | apply bN | apply bD) | exact HB.out)));rintro e wk ⟨rfl,hb_⟩;have n1_:=As.mk (blk_below BKQ.out (bS (by repeat (first | (with_reducible first | exact HQB.out | apply bA | apply bN | apply bD) | exact HQB.out)) hb_));have n0_:=As.mk (bS (by repeat (first | (with_reducible first | exact HB.out | apply bA | apply bN | apply bD) | exact HB.out)) hb_);clear hq_0 hq_1 hq_2 hq_3 hq_4 hq_5;clear HB BKQ hb_ HQB;have HB:=n0_;have BKQ:=n1_;have HQB:=As.mk (Below.refl wk.heap.size wk);clear n0_ n1_;have hq_0 : wk.cell? ⟨gq,0,none⟩ = some (.int .i64 d.f0):=(bC BKQ.out 0).trans rfl;have hq_1 : wk.cell? ⟨gq,1,none⟩ = some (.string d.f1):=(bC BKQ.out 1).trans rfl;have hq_2 : wk.cell? ⟨gq,2,none⟩ = some (.string d.f2):=(bC BKQ.out 2).trans rfl;have hq_3 : wk.cell? ⟨gq,3,none⟩ = some (.slice A2 d.f3.length c2):=(bC BKQ.out 3).trans rfl;have hq_4 : wk.cell? ⟨gq,4,none⟩ = some (.string d.f4):=(bC BKQ.out 4).trans rfl;have hq_5 : wk.cell? ⟨gq,5,none⟩ = some (.string d.f5):=(bC BKQ.out 5).trans rfl) | (go_at_call 65;(with_reducible refine (all_nil _).mono ?_);rintro e wz ⟨rfl,rfl⟩) | (at_lookup;refine look_nil_event rfl _ _ rfl ky rfl rfl HKS.out ?_) | (go_at_call 48;(with_reducible refine (len_calls _ _ _ (HS.out.below (by repeat (first | (with_reducible first | exact HB.out | apply bA | apply bN | apply bD) | exact HB.out)))).mono ?_);rintro e wz ⟨rfl,rfl⟩) | (go_at_call 63;(with_reducible refine (copied_calls _ _ _ (HS.out.below (by repeat (first | (with_reducible first | exact HB.out | apply bA | apply bN | apply bD) | exact HB.out))) (by have:=HSZ.out;omega)).mono ?_);rintro e w5 ⟨gp,rfl,⟨gp',bp,he_,hcz,hm_,hg_,hb2_⟩,hb_⟩;cases he_;have HM:=As.mk hm_;have HCZ:=As.mk hcz;have HGP:=As.mk (Nat.le_trans ((by repeat (first | (with_reducible first | exact HB.out | apply bA | apply bN | apply bD) | exact HB.out)) : Below w.heap.size w _).size hg_);have HBP:=As.mk (Nat.le_trans ((by repeat (first | (with_reducible first | exact HB.out | apply bA | apply bN | apply bD) | exact HB.out)) : Below w.heap.size w _).size hb2_);have n1_:=As.mk (blk_below BKQ.out (bS (by repeat (first | (with_reducible first | exact HQB.out | apply bA | apply bN | apply bD) | exact HQB.out)) hb_));have n0_:=As.mk (bS (by repeat (first | (with_reducible first | exact HB.out | apply bA | apply bN | apply bD) | exact HB.out)) hb_);clear hq_0 hq_1 hq_2 hq_3 hq_4 hq_5;clear HB BKQ HQB hm_ hcz hb_ hb2_ hg_;have HB:=n0_;have BKQ:=n1_;clear n0_ n1_))
  have HM0:=As.mk (HM.out.below (bD (Below.refl _ w5)))
  have HB0:=As.mk (bD HB.out)
  have hcz_0 : w5.drew.cell? ⟨gp,0,none⟩ = some (.map (some bp)):=HCZ.out
  have hq_0 : w5.drew.cell? ⟨gq,0,none⟩ = some (.int .i64 d.f0):=(bC BKQ.out 0).trans rfl
  have hq_1 : w5.drew.cell? ⟨gq,1,none⟩ = some (.string d.f1):=(bC BKQ.out 1).trans rfl
  have hq_2 : w5.drew.cell? ⟨gq,2,none⟩ = some (.string d.f2):=(bC BKQ.out 2).trans rfl
  have hq_3 : w5.drew.cell? ⟨gq,3,none⟩ = some (.slice A2 d.f3.length c2):=(bC BKQ.out 3).trans rfl
  have hq_4 : w5.drew.cell? ⟨gq,4,none⟩ = some (.string d.f4):=(bC BKQ.out 4).trans rfl
  have hq_5 : w5.drew.cell? ⟨gq,5,none⟩ = some (.string d.f5):=(bC BKQ.out 5).trans rfl
  clear HM HB BKQ HCZ
  have HM:=HM0
  have HB:=HB0
  clear HM0 HB0
  refine start_ (n:=8) (S:=fun w'=>w'.cell? ⟨gp,0,none⟩ = some (.map (some bp)) ∧ w'.cell? ⟨gq,0,none⟩ = some (.int .i64 d.f0) ∧ w'.cell? ⟨gq,1,none⟩ = some (.string d.f1) ∧ w'.cell? ⟨gq,2,none⟩ = some (.string d.f2) ∧ w'.cell? ⟨gq,3,none⟩ = some (.slice A2 d.f3.length c2) ∧ w'.cell? ⟨gq,4,none⟩ = some (.string d.f4) ∧ w'.cell? ⟨gq,5,none⟩ = some (.string d.f5)) (ds:=[7]) #[false,false,false,false,false,false,false,false] (by kernel_rfl) rfl rfl ⟨hcz_0,hq_0,hq_1,hq_2,hq_3,hq_4,hq_5⟩ (fun hHeld=>?_);refine with_tabW snapput.tab8 snapput.bits8 (fun HT_ HW_=>?_)
  refine pure_ (i:=0) (N:=some 30) (v:=?_) (a':=?_) #[true,false,false,false,false,false,false,false] rfl rfl (any_of HT_.out (by kernel_rfl)) (fun _ _ _ h=>h) (Or.inl ⟨by rfl,?_⟩) ?_ ?_
  rotate_left
  ·intro w'
   go_simp
   with_reducible rfl
  rotate_left
  ·simp only [Act.put,List.setIfInBounds_toArray,List.set_cons_zero,List.set_cons_succ,i64_w,i32_w]
   rfl
  refine pure_ (i:=1) (N:=some 31) (v:=?_) (a':=?_) #[true,true,false,false,false,false,false,false] rfl rfl (any_of HT_.out (by kernel_rfl)) (fun _ _ _ h=>h) (Or.inl ⟨by rfl,?_⟩) ?_ ?_
  rotate_left
  ·intro w'
   go_simp
   with_reducible rfl
  rotate_left
  ·simp only [Act.put,List.setIfInBounds_toArray,List.set_cons_zero,List.set_cons_succ,i64_w,i32_w]
   rfl
  refine pure_ (i:=2) (N:=some 32) (v:=?_) (a':=?_) #[true,true,true,false,false,false,false,false] rfl rfl (any_of HT_.out (by kernel_rfl)) (fun _ _ _ h=>h) (Or.inl ⟨by rfl,?_⟩) ?_ ?_
  rotate_left
  ·intro w'
   go_simp
   with_reducible rfl
  rotate_left
  ·simp only [Act.put,List.setIfInBounds_toArray,List.set_cons_zero,List.set_cons_succ,i64_w,i32_w]
   rfl
  refine take_ (i:=3) (N:=some 33) (v:=?_) (a':=?_) #[true,true,true,true,false,false,false,false] rfl rfl (take_ofW HT_.out HW_.out (by kernel_rfl)) (fun _ _ _ h=>h) (Or.inl ⟨by rfl,?_⟩) hHeld ?_ ?_
  rotate_left
  ·rintro w' ⟨s0,s1,s2,s3,s4,s5,s6⟩
   go_simp
   with_reducible rfl
  rotate_left
  ·simp only [Act.put,List.setIfInBounds_toArray,List.set_cons_zero,List.set_cons_succ,i64_w,i32_w]
   rfl
  refine pure_ (i:=4) (N:=some 34) (v:=?_) (a':=?_) #[true,true,true,true,true,false,false,false] rfl rfl (any_of HT_.out (by kernel_rfl)) (fun _ _ _ h=>h) (Or.inl ⟨by rfl,?_⟩) ?_ ?_
  rotate_left
  ·intro w'
   go_simp
   with_reducible rfl
  rotate_left
  ·simp only [Act.put,List.setIfInBounds_toArray,List.set_cons_zero,List.set_cons_succ,i64_w,i32_w]
   rfl
  refine take_ (i:=5) (N:=some 35) (v:=?_) (a':=?_) #[true,true,true,true,true,true,false,false] rfl rfl (take_ofW HT_.out HW_.out (by kernel_rfl)) (fun _ _ _ h=>h) (Or.inl ⟨by rfl,?_⟩) hHeld ?_ ?_
  rotate_left
  ·rintro w' ⟨s0,s1,s2,s3,s4,s5,s6⟩
   go_simp
   with_reducible rfl
  rotate_left
  ·simp only [Act.put,List.setIfInBounds_toArray,List.set_cons_zero,List.set_cons_succ,i64_w,i32_w]
   rfl
  refine one_ (i:=6) (N:=some 36) #[true,true,true,true,true,true,true,false] rfl rfl (one_of HT_.out (by kernel_rfl)) (by decide) (fun K hK=>?_)
  refine goes_ Tryz.func61 (by kernel_rfl) rfl #[.agg #[.int .i64 d.f0,.string d.f1,.string d.f2,.slice A2 d.f3.length c2,.string d.f4,.string d.f5]] (by rfl) rfl rfl (by (try simp only [List.map_toArray,List.map_cons,List.map_nil]);first | done | rfl | (simp only [List.length_drop,List.length_take];rfl)) ?_
  with_reducible refine (clone_calls _ d A2 c2 HL2.out (Kd.C_below HC2.out HB.out) HLV.out).mono ?_
  rintro er w6 ⟨A3,c3,rfl,hl3,hC3,hb6⟩
  refine ⟨_,rfl,?_⟩
  refine hK.out _ _ ⟨(pC hb6 hcz_0),(pC hb6 hq_0),(pC hb6 hq_1),(pC hb6 hq_2),(pC hb6 hq_3),(pC hb6 hq_4),(pC hb6 hq_5)⟩ (fun hHeld=>?_)
  clear hK K
  refine norm_ (a':=?_) ?_ ?_
  rotate_left
  ·show Act.put _ (some 36) _ = _
   simp only [Act.put,List.setIfInBounds_toArray,List.set_cons_zero,List.set_cons_succ,i64_w,i32_w]
   rfl
  refine last_ (i:=7) (N:=none) #[true,true,true,true,true,true,true,true] rfl rfl (one_of HT_.out (by kernel_rfl)) (by decide) (fun K hK=>?_)
  refine put_step (by rfl) (.tmp 33) (.tmp 34) (.tmp 36) rfl bp _ ky d _ rfl rfl rfl HKS.out (HM.out.below hb6) (by have:=HSZ.out;simp only [maxLen];omega) ⟨A3,c3,rfl,hl3,hC3⟩ ?_
  intro w7 hm7 hg7 hk7
  refine hK.out _ _ ?_
  clear hK K
  refine done_ (done_of HT_.out (by kernel_rfl)) ?_
  go_wp2_with (fail)
  refine bodyPost_ret (results_tmp2 rfl _ _ _) rfl ?_
  exact ⟨_,rfl,⟨gp,bp,rfl,hk7 _ _ (pC hb6 hcz_0),hm7,HGP.out,HBP.out⟩,below_own (bS HB.out hb6) (bS HB.out hb6).size hg7 HBP.out⟩
 ·have HCS:=As.mk (show ∀ W,Below w.heap.size w W → W.cell? ⟨gs,0,none⟩ = some (.map (some bs)) from fun W hb=>pC hb hcs)
  have HMS:=As.mk hms
  clear hcs hms hks hlv hsz
  cases hh : Maps.has M (KL ky) with
  | false =>
   have HH:=As.mk hh
   clear hh
   have hu34:=Tryz.underlying34
   have HC2:=As.mk hr2
   have HL2:=As.mk hc2
   have HKY:=As.mk hky
   clear hr2 hc2 hky
   go_enter Tryz.func23,Tryz.ntmps23
   go_upto_region 1 with (fail)
   have bk_:=blk_new w (Obj.cells #[.int .i64 d.f0,.string d.f1,.string d.f2,.slice A2 d.f3.length c2,.string d.f4,.string d.f5] 34)
   have hb_:=bA (Below.refl w.heap.size w) (Obj.cells #[.int .i64 d.f0,.string d.f1,.string d.f2,.slice A2 d.f3.length c2,.string d.f4,.string d.f5] 34)
   generalize w.alloc (Obj.cells #[.int .i64 d.f0,.string d.f1,.string d.f2,.slice A2 d.f3.length c2,.string d.f4,.string d.f5] 34) = W1 at bk_ hb_ ⊢
   obtain ⟨gq,hgq⟩ : ∃ gq,gq = w.heap.size:=⟨_,rfl⟩
   rw [← hgq] at bk_ ⊢
   have HB:=As.mk hb_
   have HQB:=As.mk (Below.refl W1.heap.size W1)
   have BKQ:=As.mk bk_
   have HGQ:=As.mk hgq
   clear hb_ bk_ hgq
   have hq_0 : W1.cell? ⟨gq,0,none⟩ = some (.int .i64 d.f0):=(bC BKQ.out 0).trans rfl
   have hq_1 : W1.cell? ⟨gq,1,none⟩ = some (.string d.f1):=(bC BKQ.out 1).trans rfl
   have hq_2 : W1.cell? ⟨gq,2,none⟩ = some (.string d.f2):=(bC BKQ.out 2).trans rfl
   have hq_3 : W1.cell? ⟨gq,3,none⟩ = some (.slice A2 d.f3.length c2):=(bC BKQ.out 3).trans rfl
   have hq_4 : W1.cell? ⟨gq,4,none⟩ = some (.string d.f4):=(bC BKQ.out 4).trans rfl
   have hq_5 : W1.cell? ⟨gq,5,none⟩ = some (.string d.f5):=(bC BKQ.out 5).trans rfl
   go_upto_region 8 with (first | (go_at_call 60;(with_reducible refine (def_Key.calls k d.f0 d.f1 d.f2 A2 c2 d.f3 d.f4 d.f5 ky _ ?s1 HL2.out HKY.out).mono ?_);(case s1=>exact Kd.C_below HC2.out (by repeat (first | (with_reducible first | exact HB.out | apply bA | apply bN | apply bD) | exact HB.out)));rintro e wk ⟨rfl,hb_⟩;have n1_:=As.mk (blk_below BKQ.out (bS (by repeat (first | (with_reducible first | exact HQB.out | apply bA | apply bN | apply bD) | exact HQB.out)) hb_));have n0_:=As.mk (bS (by repeat (first | (with_reducible first | exact HB.out | apply bA | apply bN | apply bD) | exact HB.out)) hb_);clear hq_0 hq_1 hq_2 hq_3 hq_4 hq_5;clear HB BKQ hb_ HQB;have HB:=n0_;have BKQ:=n1_;have HQB:=As.mk (Below.refl wk.heap.size wk);clear n0_ n1_;have hq_0 : wk.cell? ⟨gq,0,none⟩ = some (.int .i64 d.f0):=(bC BKQ.out 0).trans rfl;have hq_1 : wk.cell? ⟨gq,1,none⟩ = some (.string d.f1):=(bC BKQ.out 1).trans rfl;have hq_2 : wk.cell? ⟨gq,2,none⟩ = some (.string d.f2):=(bC BKQ.out 2).trans rfl;have hq_3 : wk.cell? ⟨gq,3,none⟩ = some (.slice A2 d.f3.length c2):=(bC BKQ.out 3).trans rfl;have hq_4 : wk.cell? ⟨gq,4,none⟩ = some (.string d.f4):=(bC BKQ.out 4).trans rfl;have hq_5 : wk.cell? ⟨gq,5,none⟩ = some (.string d.f5):=(bC BKQ.out 5).trans rfl) | (go_at_call 65;(with_reducible refine (all_some _ gs bs ?s1).mono ?_);(case s1=>exact HCS.out _ (by repeat (first | (with_reducible first | exact HB.out | apply bA | apply bN | apply bD) | exact HB.out)));rintro e wz ⟨rfl,rfl⟩) | (at_lookup;refine look_no rfl _ _ rfl bs M ky rfl rfl HKS.out (HMS.out.below (by repeat (first | (with_reducible first | exact HB.out | apply bA | apply bN | apply bD) | exact HB.out))) HH.out ?_) | (go_at_call 48;(with_reducible refine (len_calls _ _ _ (HS.out.below (by repeat (first | (with_reducible first | exact HB.out | apply bA | apply bN | apply bD) | exact HB.out)))).mono ?_);rintro e wz ⟨rfl,rfl⟩) | (go_at_call 63;(with_reducible refine (copied_calls _ _ _ (HS.out.below (by repeat (first | (with_reducible first | exact HB.out | apply bA | apply bN | apply bD) | exact HB.out))) (by have:=HSZ.out;omega)).mono ?_);rintro e w5 ⟨gp,rfl,⟨gp',bp,he_,hcz,hm_,hg_,hb2_⟩,hb_⟩;cases he_;have HM:=As.mk hm_;have HCZ:=As.mk hcz;have HGP:=As.mk (Nat.le_trans ((by repeat (first | (with_reducible first | exact HB.out | apply bA | apply bN | apply bD) | exact HB.out)) : Below w.heap.size w _).size hg_);have HBP:=As.mk (Nat.le_trans ((by repeat (first | (with_reducible first | exact HB.out | apply bA | apply bN | apply bD) | exact HB.out)) : Below w.heap.size w _).size hb2_);have n1_:=As.mk (blk_below BKQ.out (bS (by repeat (first | (with_reducible first | exact HQB.out | apply bA | apply bN | apply bD) | exact HQB.out)) hb_));have n0_:=As.mk (bS (by repeat (first | (with_reducible first | exact HB.out | apply bA | apply bN | apply bD) | exact HB.out)) hb_);clear hq_0 hq_1 hq_2 hq_3 hq_4 hq_5;clear HB BKQ HQB hm_ hcz hb_ hb2_ hg_;have HB:=n0_;have BKQ:=n1_;clear n0_ n1_))
   have HM0:=As.mk (HM.out.below (bD (Below.refl _ w5)))
   have HB0:=As.mk (bD HB.out)
   have hcz_0 : w5.drew.cell? ⟨gp,0,none⟩ = some (.map (some bp)):=HCZ.out
   have hq_0 : w5.drew.cell? ⟨gq,0,none⟩ = some (.int .i64 d.f0):=(bC BKQ.out 0).trans rfl
   have hq_1 : w5.drew.cell? ⟨gq,1,none⟩ = some (.string d.f1):=(bC BKQ.out 1).trans rfl
   have hq_2 : w5.drew.cell? ⟨gq,2,none⟩ = some (.string d.f2):=(bC BKQ.out 2).trans rfl
   have hq_3 : w5.drew.cell? ⟨gq,3,none⟩ = some (.slice A2 d.f3.length c2):=(bC BKQ.out 3).trans rfl
   have hq_4 : w5.drew.cell? ⟨gq,4,none⟩ = some (.string d.f4):=(bC BKQ.out 4).trans rfl
   have hq_5 : w5.drew.cell? ⟨gq,5,none⟩ = some (.string d.f5):=(bC BKQ.out 5).trans rfl
   clear HM HB BKQ HCZ
   have HM:=HM0
   have HB:=HB0
   clear HM0 HB0
   refine start_ (n:=8) (S:=fun w'=>w'.cell? ⟨gp,0,none⟩ = some (.map (some bp)) ∧ w'.cell? ⟨gq,0,none⟩ = some (.int .i64 d.f0) ∧ w'.cell? ⟨gq,1,none⟩ = some (.string d.f1) ∧ w'.cell? ⟨gq,2,none⟩ = some (.string d.f2) ∧ w'.cell? ⟨gq,3,none⟩ = some (.slice A2 d.f3.length c2) ∧ w'.cell? ⟨gq,4,none⟩ = some (.string d.f4) ∧ w'.cell? ⟨gq,5,none⟩ = some (.string d.f5)) (ds:=[7]) #[false,false,false,false,false,false,false,false] (by kernel_rfl) rfl rfl ⟨hcz_0,hq_0,hq_1,hq_2,hq_3,hq_4,hq_5⟩ (fun hHeld=>?_);refine with_tabW snapput.tab8 snapput.bits8 (fun HT_ HW_=>?_)
   refine pure_ (i:=0) (N:=some 30) (v:=?_) (a':=?_) #[true,false,false,false,false,false,false,false] rfl rfl (any_of HT_.out (by kernel_rfl)) (fun _ _ _ h=>h) (Or.inl ⟨by rfl,?_⟩) ?_ ?_
   rotate_left
   ·intro w'
    go_simp
    with_reducible rfl
   rotate_left
   ·simp only [Act.put,List.setIfInBounds_toArray,List.set_cons_zero,List.set_cons_succ,i64_w,i32_w]
    rfl
   refine pure_ (i:=1) (N:=some 31) (v:=?_) (a':=?_) #[true,true,false,false,false,false,false,false] rfl rfl (any_of HT_.out (by kernel_rfl)) (fun _ _ _ h=>h) (Or.inl ⟨by rfl,?_⟩) ?_ ?_
   rotate_left
   ·intro w'
    go_simp
    with_reducible rfl
   rotate_left
   ·simp only [Act.put,List.setIfInBounds_toArray,List.set_cons_zero,List.set_cons_succ,i64_w,i32_w]
    rfl
   refine pure_ (i:=2) (N:=some 32) (v:=?_) (a':=?_) #[true,true,true,false,false,false,false,false] rfl rfl (any_of HT_.out (by kernel_rfl)) (fun _ _ _ h=>h) (Or.inl ⟨by rfl,?_⟩) ?_ ?_
   rotate_left
   ·intro w'
    go_simp
    with_reducible rfl
   rotate_left
   ·simp only [Act.put,List.setIfInBounds_toArray,List.set_cons_zero,List.set_cons_succ,i64_w,i32_w]
    rfl
   refine take_ (i:=3) (N:=some 33) (v:=?_) (a':=?_) #[true,true,true,true,false,false,false,false] rfl rfl (take_ofW HT_.out HW_.out (by kernel_rfl)) (fun _ _ _ h=>h) (Or.inl ⟨by rfl,?_⟩) hHeld ?_ ?_
   rotate_left
   ·rintro w' ⟨s0,s1,s2,s3,s4,s5,s6⟩
    go_simp
    with_reducible rfl
   rotate_left
   ·simp only [Act.put,List.setIfInBounds_toArray,List.set_cons_zero,List.set_cons_succ,i64_w,i32_w]
    rfl
   refine pure_ (i:=4) (N:=some 34) (v:=?_) (a':=?_) #[true,true,true,true,true,false,false,false] rfl rfl (any_of HT_.out (by kernel_rfl)) (fun _ _ _ h=>h) (Or.inl ⟨by rfl,?_⟩) ?_ ?_
   rotate_left
   ·intro w'
    go_simp
    with_reducible rfl
   rotate_left
   ·simp only [Act.put,List.setIfInBounds_toArray,List.set_cons_zero,List.set_cons_succ,i64_w,i32_w]
    rfl
   refine take_ (i:=5) (N:=some 35) (v:=?_) (a':=?_) #[true,true,true,true,true,true,false,false] rfl rfl (take_ofW HT_.out HW_.out (by kernel_rfl)) (fun _ _ _ h=>h) (Or.inl ⟨by rfl,?_⟩) hHeld ?_ ?_
   rotate_left
   ·rintro w' ⟨s0,s1,s2,s3,s4,s5,s6⟩
    go_simp
    with_reducible rfl
   rotate_left
   ·simp only [Act.put,List.setIfInBounds_toArray,List.set_cons_zero,List.set_cons_succ,i64_w,i32_w]
    rfl
   refine one_ (i:=6) (N:=some 36) #[true,true,true,true,true,true,true,false] rfl rfl (one_of HT_.out (by kernel_rfl)) (by decide) (fun K hK=>?_)
   refine goes_ Tryz.func61 (by kernel_rfl) rfl #[.agg #[.int .i64 d.f0,.string d.f1,.string d.f2,.slice A2 d.f3.length c2,.string d.f4,.string d.f5]] (by rfl) rfl rfl (by (try simp only [List.map_toArray,List.map_cons,List.map_nil]);first | done | rfl | (simp only [List.length_drop,List.length_take];rfl)) ?_
   with_reducible refine (clone_calls _ d A2 c2 HL2.out (Kd.C_below HC2.out HB.out) HLV.out).mono ?_
   rintro er w6 ⟨A3,c3,rfl,hl3,hC3,hb6⟩
   refine ⟨_,rfl,?_⟩
   refine hK.out _ _ ⟨(pC hb6 hcz_0),(pC hb6 hq_0),(pC hb6 hq_1),(pC hb6 hq_2),(pC hb6 hq_3),(pC hb6 hq_4),(pC hb6 hq_5)⟩ (fun hHeld=>?_)
   clear hK K
   refine norm_ (a':=?_) ?_ ?_
   rotate_left
   ·show Act.put _ (some 36) _ = _
    simp only [Act.put,List.setIfInBounds_toArray,List.set_cons_zero,List.set_cons_succ,i64_w,i32_w]
    rfl
   refine last_ (i:=7) (N:=none) #[true,true,true,true,true,true,true,true] rfl rfl (one_of HT_.out (by kernel_rfl)) (by decide) (fun K hK=>?_)
   refine put_step (by rfl) (.tmp 33) (.tmp 34) (.tmp 36) rfl bp _ ky d _ rfl rfl rfl HKS.out (HM.out.below hb6) (by have:=HSZ.out;simp only [maxLen];omega) ⟨A3,c3,rfl,hl3,hC3⟩ ?_
   intro w7 hm7 hg7 hk7
   refine hK.out _ _ ?_
   clear hK K
   refine done_ (done_of HT_.out (by kernel_rfl)) ?_
   go_wp2_with (fail)
   refine bodyPost_ret (results_tmp2 rfl _ _ _) rfl ?_
   exact ⟨_,rfl,⟨gp,bp,rfl,hk7 _ _ (pC hb6 hcz_0),hm7,HGP.out,HBP.out⟩,below_own (bS HB.out hb6) (bS HB.out hb6).size hg7 HBP.out⟩
  | true =>
   have HH:=As.mk hh
   clear hh
   have hu34:=Tryz.underlying34
   have HC2:=As.mk hr2
   have HL2:=As.mk hc2
   have HKY:=As.mk hky
   clear hr2 hc2 hky
   go_enter Tryz.func23,Tryz.ntmps23
   go_upto_region 1 with (fail)
   have bk_:=blk_new w (Obj.cells #[.int .i64 d.f0,.string d.f1,.string d.f2,.slice A2 d.f3.length c2,.string d.f4,.string d.f5] 34)
   have hb_:=bA (Below.refl w.heap.size w) (Obj.cells #[.int .i64 d.f0,.string d.f1,.string d.f2,.slice A2 d.f3.length c2,.string d.f4,.string d.f5] 34)
   generalize w.alloc (Obj.cells #[.int .i64 d.f0,.string d.f1,.string d.f2,.slice A2 d.f3.length c2,.string d.f4,.string d.f5] 34) = W1 at bk_ hb_ ⊢
   obtain ⟨gq,hgq⟩ : ∃ gq,gq = w.heap.size:=⟨_,rfl⟩
   rw [← hgq] at bk_ ⊢
   have HB:=As.mk hb_
   have HQB:=As.mk (Below.refl W1.heap.size W1)
   have BKQ:=As.mk bk_
   have HGQ:=As.mk hgq
   clear hb_ bk_ hgq
   have hq_0 : W1.cell? ⟨gq,0,none⟩ = some (.int .i64 d.f0):=(bC BKQ.out 0).trans rfl
   have hq_1 : W1.cell? ⟨gq,1,none⟩ = some (.string d.f1):=(bC BKQ.out 1).trans rfl
   have hq_2 : W1.cell? ⟨gq,2,none⟩ = some (.string d.f2):=(bC BKQ.out 2).trans rfl
   have hq_3 : W1.cell? ⟨gq,3,none⟩ = some (.slice A2 d.f3.length c2):=(bC BKQ.out 3).trans rfl
   have hq_4 : W1.cell? ⟨gq,4,none⟩ = some (.string d.f4):=(bC BKQ.out 4).trans rfl
   have hq_5 : W1.cell? ⟨gq,5,none⟩ = some (.string d.f5):=(bC BKQ.out 5).trans rfl
   go_upto_region 8 with (first | (go_at_call 60;(with_reducible refine (def_Key.calls k d.f0 d.f1 d.f2 A2 c2 d.f3 d.f4 d.f5 ky _ ?s1 HL2.out HKY.out).mono ?_);(case s1=>exact Kd.C_below HC2.out (by repeat (first | (with_reducible first | exact HB.out | apply bA | apply bN | apply bD) | exact HB.out)));rintro e wk ⟨rfl,hb_⟩;have n1_:=As.mk (blk_below BKQ.out (bS (by repeat (first | (with_reducible first | exact HQB.out | apply bA | apply bN | apply bD) | exact HQB.out)) hb_));have n0_:=As.mk (bS (by repeat (first | (with_reducible first | exact HB.out | apply bA | apply bN | apply bD) | exact HB.out)) hb_);clear hq_0 hq_1 hq_2 hq_3 hq_4 hq_5;clear HB BKQ hb_ HQB;have HB:=n0_;have BKQ:=n1_;have HQB:=As.mk (Below.refl wk.heap.size wk);clear n0_ n1_;have hq_0 : wk.cell? ⟨gq,0,none⟩ = some (.int .i64 d.f0):=(bC BKQ.out 0).trans rfl;have hq_1 : wk.cell? ⟨gq,1,none⟩ = some (.string d.f1):=(bC BKQ.out 1).trans rfl;have hq_2 : wk.cell? ⟨gq,2,none⟩ = some (.string d.f2):=(bC BKQ.out 2).trans rfl;have hq_3 : wk.cell? ⟨gq,3,none⟩ = some (.slice A2 d.f3.length c2):=(bC BKQ.out 3).trans rfl;have hq_4 : wk.cell? ⟨gq,4,none⟩ = some (.string d.f4):=(bC BKQ.out 4).trans rfl;have hq_5 : wk.cell? ⟨gq,5,none⟩ = some (.string d.f5):=(bC BKQ.out 5).trans rfl) | (go_at_call 65;(with_reducible refine (all_some _ gs bs ?s1).mono ?_);(case s1=>exact HCS.out _ (by repeat (first | (with_reducible first | exact HB.out | apply bA | apply bN | apply bD) | exact HB.out)));rintro e wz ⟨rfl,rfl⟩) | (at_lookup;refine look_yes rfl _ _ rfl bs M ky rfl rfl HKS.out (HMS.out.below (by repeat (first | (with_reducible first | exact HB.out | apply bA | apply bN | apply bD) | exact HB.out))) HH.out ?_;intro dz Az cz _ _ _) | (go_at_call 63;(with_reducible refine (copied_calls _ _ _ (HS.out.below (by repeat (first | (with_reducible first | exact HB.out | apply bA | apply bN | apply bD) | exact HB.out))) (by have:=HSZ.out;omega)).mono ?_);rintro e w5 ⟨gp,rfl,⟨gp',bp,he_,hcz,hm_,hg_,hb2_⟩,hb_⟩;cases he_;have HM:=As.mk hm_;have HCZ:=As.mk hcz;have HGP:=As.mk (Nat.le_trans ((by repeat (first | (with_reducible first | exact HB.out | apply bA | apply bN | apply bD) | exact HB.out)) : Below w.heap.size w _).size hg_);have HBP:=As.mk (Nat.le_trans ((by repeat (first | (with_reducible first | exact HB.out | apply bA | apply bN | apply bD) | exact HB.out)) : Below w.heap.size w _).size hb2_);have n1_:=As.mk (blk_below BKQ.out (bS (by repeat (first | (with_reducible first | exact HQB.out | apply bA | apply bN | apply bD) | exact HQB.out)) hb_));have n0_:=As.mk (bS (by repeat (first | (with_reducible first | exact HB.out | apply bA | apply bN | apply bD) | exact HB.out)) hb_);clear hq_0 hq_1 hq_2 hq_3 hq_4 hq_5;clear HB BKQ HQB hm_ hcz hb_ hb2_ hg_;have HB:=n0_;have BKQ:=n1_;clear n0_ n1_))
   have HM0:=As.mk (HM.out.below (bD (Below.refl _ w5)))
   have HB0:=As.mk (bD HB.out)
   have hcz_0 : w5.drew.cell? ⟨gp,0,none⟩ = some (.map (some bp)):=HCZ.out
   have hq_0 : w5.drew.cell? ⟨gq,0,none⟩ = some (.int .i64 d.f0):=(bC BKQ.out 0).trans rfl
   have hq_1 : w5.drew.cell? ⟨gq,1,none⟩ = some (.string d.f1):=(bC BKQ.out 1).trans rfl
   have hq_2 : w5.drew.cell? ⟨gq,2,none⟩ = some (.string d.f2):=(bC BKQ.out 2).trans rfl
   have hq_3 : w5.drew.cell? ⟨gq,3,none⟩ = some (.slice A2 d.f3.length c2):=(bC BKQ.out 3).trans rfl
   have hq_4 : w5.drew.cell? ⟨gq,4,none⟩ = some (.string d.f4):=(bC BKQ.out 4).trans rfl
   have hq_5 : w5.drew.cell? ⟨gq,5,none⟩ = some (.string d.f5):=(bC BKQ.out 5).trans rfl
   clear HM HB BKQ HCZ
   have HM:=HM0
   have HB:=HB0
   clear HM0 HB0
   refine start_ (n:=8) (S:=fun w'=>w'.cell? ⟨gp,0,none⟩ = some (.map (some bp)) ∧ w'.cell? ⟨gq,0,none⟩ = some (.int .i64 d.f0) ∧ w'.cell? ⟨gq,1,none⟩ = some (.string d.f1) ∧ w'.cell? ⟨gq,2,none⟩ = some (.string d.f2) ∧ w'.cell? ⟨gq,3,none⟩ = some (.slice A2 d.f3.length c2) ∧ w'.cell? ⟨gq,4,none⟩ = some (.string d.f4) ∧ w'.cell? ⟨gq,5,none⟩ = some (.string d.f5)) (ds:=[7]) #[false,false,false,false,false,false,false,false] (by kernel_rfl) rfl rfl ⟨hcz_0,hq_0,hq_1,hq_2,hq_3,hq_4,hq_5⟩ (fun hHeld=>?_);refine with_tabW snapput.tab8 snapput.bits8 (fun HT_ HW_=>?_)
   refine pure_ (i:=0) (N:=some 30) (v:=?_) (a':=?_) #[true,false,false,false,false,false,false,false] rfl rfl (any_of HT_.out (by kernel_rfl)) (fun _ _ _ h=>h) (Or.inl ⟨by rfl,?_⟩) ?_ ?_
   rotate_left
   ·intro w'
    go_simp
    with_reducible rfl
   rotate_left
   ·simp only [Act.put,List.setIfInBounds_toArray,List.set_cons_zero,List.set_cons_succ,i64_w,i32_w]
    rfl
   refine pure_ (i:=1) (N:=some 31) (v:=?_) (a':=?_) #[true,true,false,false,false,false,false,false] rfl rfl (any_of HT_.out (by kernel_rfl)) (fun _ _ _ h=>h) (Or.inl ⟨by rfl,?_⟩) ?_ ?_
   rotate_left
   ·intro w'
    go_simp
    with_reducible rfl
   rotate_left
   ·simp only [Act.put,List.setIfInBounds_toArray,List.set_cons_zero,List.set_cons_succ,i64_w,i32_w]
    rfl
   refine pure_ (i:=2) (N:=some 32) (v:=?_) (a':=?_) #[true,true,true,false,false,false,false,false] rfl rfl (any_of HT_.out (by kernel_rfl)) (fun _ _ _ h=>h) (Or.inl ⟨by rfl,?_⟩) ?_ ?_
   rotate_left
   ·intro w'
    go_simp
    with_reducible rfl
   rotate_left
   ·simp only [Act.put,List.setIfInBounds_toArray,List.set_cons_zero,List.set_cons_succ,i64_w,i32_w]
    rfl
   refine take_ (i:=3) (N:=some 33) (v:=?_) (a':=?_) #[true,true,true,true,false,false,false,false] rfl rfl (take_ofW HT_.out HW_.out (by kernel_rfl)) (fun _ _ _ h=>h) (Or.inl ⟨by rfl,?_⟩) hHeld ?_ ?_
   rotate_left
   ·rintro w' ⟨s0,s1,s2,s3,s4,s5,s6⟩
    go_simp
    with_reducible rfl
   rotate_left
   ·simp only [Act.put,List.setIfInBounds_toArray,List.set_cons_zero,List.set_cons_succ,i64_w,i32_w]
    rfl
   refine pure_ (i:=4) (N:=some 34) (v:=?_) (a':=?_) #[true,true,true,true,true,false,false,false] rfl rfl (any_of HT_.out (by kernel_rfl)) (fun _ _ _ h=>h) (Or.inl ⟨by rfl,?_⟩) ?_ ?_
   rotate_left
   ·intro w'
    go_simp
    with_reducible rfl
   rotate_left
   ·simp only [Act.put,List.setIfInBounds_toArray,List.set_cons_zero,List.set_cons_succ,i64_w,i32_w]
    rfl
   refine take_ (i:=5) (N:=some 35) (v:=?_) (a':=?_) #[true,true,true,true,true,true,false,false] rfl rfl (take_ofW HT_.out HW_.out (by kernel_rfl)) (fun _ _ _ h=>h) (Or.inl ⟨by rfl,?_⟩) hHeld ?_ ?_
   rotate_left
   ·rintro w' ⟨s0,s1,s2,s3,s4,s5,s6⟩
    go_simp
    with_reducible rfl
   rotate_left
   ·simp only [Act.put,List.setIfInBounds_toArray,List.set_cons_zero,List.set_cons_succ,i64_w,i32_w]
    rfl
   refine one_ (i:=6) (N:=some 36) #[true,true,true,true,true,true,true,false] rfl rfl (one_of HT_.out (by kernel_rfl)) (by decide) (fun K hK=>?_)
   refine goes_ Tryz.func61 (by kernel_rfl) rfl #[.agg #[.int .i64 d.f0,.string d.f1,.string d.f2,.slice A2 d.f3.length c2,.string d.f4,.string d.f5]] (by rfl) rfl rfl (by (try simp only [List.map_toArray,List.map_cons,List.map_nil]);first | done | rfl | (simp only [List.length_drop,List.length_take];rfl)) ?_
   with_reducible refine (clone_calls _ d A2 c2 HL2.out (Kd.C_below HC2.out HB.out) HLV.out).mono ?_
   rintro er w6 ⟨A3,c3,rfl,hl3,hC3,hb6⟩
   refine ⟨_,rfl,?_⟩
   refine hK.out _ _ ⟨(pC hb6 hcz_0),(pC hb6 hq_0),(pC hb6 hq_1),(pC hb6 hq_2),(pC hb6 hq_3),(pC hb6 hq_4),(pC hb6 hq_5)⟩ (fun hHeld=>?_)
   clear hK K
   refine norm_ (a':=?_) ?_ ?_
   rotate_left
   ·show Act.put _ (some 36) _ = _
    simp only [Act.put,List.setIfInBounds_toArray,List.set_cons_zero,List.set_cons_succ,i64_w,i32_w]
    rfl
   refine last_ (i:=7) (N:=none) #[true,true,true,true,true,true,true,true] rfl rfl (one_of HT_.out (by kernel_rfl)) (by decide) (fun K hK=>?_)
   refine put_step (by rfl) (.tmp 33) (.tmp 34) (.tmp 36) rfl bp _ ky d _ rfl rfl rfl HKS.out (HM.out.below hb6) (by have:=HSZ.out;simp only [maxLen];omega) ⟨A3,c3,rfl,hl3,hC3⟩ ?_
   intro w7 hm7 hg7 hk7
   refine hK.out _ _ ?_
   clear hK K
   refine done_ (done_of HT_.out (by kernel_rfl)) ?_
   go_wp2_with (fail)
   refine bodyPost_ret (results_tmp2 rfl _ _ _) rfl ?_
   exact ⟨_,rfl,⟨gp,bp,rfl,hk7 _ _ (pC hb6 hcz_0),hm7,HGP.out,HBP.out⟩,below_own (bS HB.out hb6) (bS HB.out hb6).size hg7 HBP.out⟩
end Go.Proofs.YtmlebgikdegjjaaGreatDoor.Hd
