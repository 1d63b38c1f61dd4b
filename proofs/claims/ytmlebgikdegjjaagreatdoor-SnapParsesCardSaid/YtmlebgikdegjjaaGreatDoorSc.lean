/- Snapshots with keys dropped, and with a definition put. -/
import Derived.Test.YtmlebgikdegjjaaGreatDoorSb
import Derived.Test.YtmlebgikdegjjaaGreatDoorPAllx2
import Derived.Test.YtmlebgikdegjjaaGreatDoorPAllx2
set_option maxHeartbeats 16000000
set_option maxRecDepth 100000
namespace Go.Proofs.YtmlebgikdegjjaaGreatDoor.Hd
open Go.Maps Go.RowKit Go.Proofs.YtmlebgikdegjjaaGreatDoorW.PrintWords Go.Proofs.YtmlebgikdegjjaaGreatDoorW.PrintLast Go.Proofs.YtmlebgikdegjjaaGreatDoorW.PrintMore Go.Proofs.YtmlebgikdegjjaaGreatDoor.PAll
attribute [local go_sem] max2_int min2_int max_two min_two max_three min_three max_four min_four
set_option linter.unusedVariables false
set_option linter.unusedSimpArgs false
def dropM (M : DataW S34) (keys : List ByteArray) : DataW S34:=keys.foldl (fun M s=>M.del (KL s)) M
theorem dropM_take {M : DataW S34} {keys : List ByteArray} {x : Nat} (hx : x < keys.length) : dropM M (keys.take (x + 1)) = (dropM M (keys.take x)).del (KL keys[x]):=by
 unfold dropM
 rw [List.take_succ_eq_append_getElem hx,List.foldl_append]
 rfl
theorem nonempty_ {s : ByteArray} (h : 0 < s.size) : (s.toList == ([] : List UInt8)) = false:=beq_eq_false_iff_ne.mpr (fun e=>by
 rw [Lib.toList_data] at e
 have h2:=congrArg List.length e
 rw [Array.length_toList] at h2
 have h3 : s.size = 0:=h2
 omega)
theorem rdOf_at (l : List ByteArray) (x : Nat) (hx : x < l.length) : rdOf ByteArray.empty l (x : Int) = l[x]:=by
 unfold rdOf
 rw [Int.toNat_natCast,List.getD_eq_getElem?_getD,List.getElem?_eq_getElem hx]
 rfl
theorem drop_calls (w : World) (v : Value) (M : DataW S34) (A1 : Option Addr) (c1 : Nat) (keys : List ByteArray) (h : Sn w v M) (hroom : Maps.size M ≤ 1000) (hr1 : Kd.C Kd.string w A1 keys.length keys) (hc1 : keys.length ≤ c1) (hk : ∀ s ∈ keys,s.size ≤ 1000000) (hl : keys.length ≤ 1000000) :
  Calls Tryz.prog 20 #[v,.slice A1 keys.length c1] w fun e w'=>∃ vv,e = .returned vv ∧ SnF w' w.heap.size vv (dropM M keys) ∧ Below w.heap.size w w':=by
 have HS:=As.mk h
 have HR1:=As.mk hr1
 have HKS:=As.mk hk
 have HLK:=As.mk hl
 clear h hr1 hk hl
 go_enter Tryz.func20,Tryz.ntmps20
 go_wp2_with (first | (go_at_call 63;(with_reducible refine (copied_calls _ v M HS.out hroom).mono ?_);rintro e w1 ⟨gp,rfl,⟨gp',bp,he_,hcz,hm_,hg_,hb2_⟩,hb_⟩;cases he_;have HM:=As.mk hm_;have HCZ:=As.mk hcz;have HB:=As.mk hb_;have HBP:=As.mk hb2_;have HGP:=As.mk hg_;clear hm_ hcz hb_ hb2_ hg_))
 go_loopg [12] keys.length (fun kq v12 w'=>∃ (x : Nat),v12 = .int .i64 (x : Int) ∧ x ≤ keys.length ∧ As (kq + x = keys.length) ∧ As (MapD w' bp (dropM M (keys.take x))) ∧ As (w'.cell? ⟨gp,0,none⟩ = some (.map (some bp))) ∧ As (Below w.heap.size w w'))
 case atStart=>exact ⟨0,rfl,Nat.zero_le _,⟨rfl⟩,⟨HM.out⟩,⟨HCZ.out⟩,⟨(by repeat (first | (with_reducible first | exact HB.out | apply bA | apply bN | apply bD) | exact HB.out))⟩⟩
 case round =>
  clear HB HM HCZ
  obtain ⟨x,rfl,p1,HKQ,HM,HCZ,HB⟩:=hrel
  by_cases hlt : x < keys.length
  ·have c0_ : decide ((x : Int) < (keys.length : Int)) = true:=decide_eq_true (by omega)
   have hw1 : wrap64 ((x : Int) + 1) = ((x + 1 : Nat) : Int):=by rw [IntWalk.wrap64_in _ (by have:=HLK.out;omega)];omega
   have HKX:=As.mk (show (keys[x]).size ≤ maxLen from Nat.le_trans (HKS.out _ (List.getElem_mem hlt)) (by decide))
   obtain ⟨ad,e_,q0⟩:=Kd.at_string HR1.out (x : Int) (by omega) (by omega)
   rw [rdOf_at keys x hlt,Int.toNat_natCast] at q0
   subst e_
   replace q0:=(HB.out.cell (World.block_lt_of_cell? w _ q0)).trans q0
   have p1_ : ((x : Int) < (keys.length : Int)) = True:=eq_true (by omega)
   have p2_ : (x < keys.length) = True:=eq_true hlt
   have hcz_0:=HCZ.out
   have HLT:=As.mk hlt
   go_wp2_with (first | (at_delete;refine del_event rfl _ _ rfl bp _ keys[x] rfl rfl HKX.out HM.out ?_;intro w2 hm2 hg2 hk2;have n0_:=As.mk hm2;have n1_:=As.mk (hk2 _ _ HCZ.out);have n2_:=As.mk (below_own HB.out HB.out.size hg2 HBP.out);clear HM HCZ HB hm2 hg2 hk2;have HM:=n0_;have HCZ:=n1_;have HB:=n2_;clear n0_ n1_ n2_))
   go_roundg (gk - 1)
   case measure=>have:=HKQ.out;have:=HLT.out;omega
   case rel=>exact ⟨x + 1,(by first | rfl | rw [hw1]),HLT.out,⟨by have:=HKQ.out;have:=HLT.out;omega⟩,⟨by rw [dropM_take HLT.out];exact HM.out⟩,⟨HCZ.out⟩,⟨HB.out⟩⟩
  ·have c0_ : decide ((x : Int) < (keys.length : Int)) = false:=decide_eq_false (by omega)
   obtain rfl : x = keys.length:=by omega
   go_wp2_with (fail)
   go_ret
   have hm:=HM.out
   rw [List.take_length] at hm
   exact ⟨_,rfl,⟨gp,bp,rfl,HCZ.out,hm,HGP.out,HBP.out⟩,HB.out⟩
theorem clone_calls (w : World) (d : S34) (A2 : Option Addr) (c2 : Nat) (hc2 : d.f3.length ≤ c2) (hr2 : Kd.string.C w A2 d.f3.length d.f3) (hl : d.f3.length ≤ 1000000) :
  Calls Tryz.prog 61 #[.agg #[.int .i64 d.f0,.string d.f1,.string d.f2,.slice A2 d.f3.length c2,.string d.f4,.string d.f5]] w fun e w'=>∃ A3 c3,e = .returned (.agg #[.int .i64 d.f0,.string d.f1,.string d.f2,.slice A3 d.f3.length c3,.string d.f4,.string d.f5]) ∧ d.f3.length ≤ c3 ∧ Kd.string.C w' A3 d.f3.length d.f3 ∧ Below w.heap.size w w':=by
 refine (snap_clone.calls d.f0 d.f1 d.f2 A2 c2 d.f3 d.f4 d.f5 d.f0 d.f1 d.f2 d.f3 d.f4 d.f5 w hr2 hc2 ?_).mono ?_
 ·unfold snap_clone.f slices_Clone_string_string.f
  rw [if_pos (by omega),Option.bind_some]
 ·rintro e w' ⟨v3,rfl,ho,hb⟩
  obtain ⟨A3,c3,rfl,hl3,hC3⟩:=Kd.R_reads ho
  exact ⟨A3,c3,rfl,hl3,hC3,hb⟩
end Go.Proofs.YtmlebgikdegjjaaGreatDoor.Hd
