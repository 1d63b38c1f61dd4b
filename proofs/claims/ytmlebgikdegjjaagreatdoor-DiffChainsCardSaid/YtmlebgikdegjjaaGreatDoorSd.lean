/- The snapshot of definitions: snap.New. -/
import Derived.Test.YtmlebgikdegjjaaGreatDoorSc
set_option maxHeartbeats 16000000
set_option maxRecDepth 100000
namespace Go.Proofs.YtmlebgikdegjjaaGreatDoor.Hd
open Go.Maps Go.RowKit Go.Proofs.YtmlebgikdegjjaaGreatDoorW.PrintWords Go.Proofs.YtmlebgikdegjjaaGreatDoorW.PrintLast Go.Proofs.YtmlebgikdegjjaaGreatDoorW.PrintMore Go.Proofs.YtmlebgikdegjjaaGreatDoor.PAll
attribute [local go_sem] max2_int min2_int max_two min_two max_three min_three max_four min_four
set_option linter.unusedVariables false
set_option linter.unusedSimpArgs false
def newGo (key : S34 → ByteArray) : List S34 → DataW S34 → DataW S34 × Int
 | [],M=>(M,0)
 | d :: l,M=>if (key d).size = 0 then (M,31) else if Maps.has M (KL (key d)) = true then (M,45) else newGo key l (M.put (KL (key d)) (.held d))
theorem size_put (M : DataW S34) (kl : Lit) (d : DataW S34) : Maps.size (M.put kl d) ≤ Maps.size M + 1:=by
 cases M <;> try exact Nat.le_succ _
 rename_i ms
 show (DataW.insert (kl,d) (ms.filter fun p=>!p.1.sameKey kl)).length ≤ ms.length + 1
 rw [length_insert]
 have:=List.length_filter_le (fun p : Lit × DataW S34=>!p.1.sameKey kl) ms
 omega
theorem rd_at (l : List S34) (x : Nat) (hx : x < l.length) : rd_T34 l (x : Int) = l[x]:=by
 unfold rd_T34
 rw [Int.toNat_natCast,List.getD_eq_getElem?_getD,List.getElem?_eq_getElem hx]
 rfl
theorem empty_ {s : ByteArray} (h : s.size = 0) : s = ⟨#[]⟩:=by
 obtain ⟨a⟩:=s
 have : a = #[]:=Array.eq_empty_of_size_eq_zero h
 rw [this]
def snapnew.T13 : Bool × List (List Nat × List Nat):=(true,[([],[]),([0],[0]),([1],[1]),([2],[2]),([],[]),([],[]),([5],[5]),([3,4,6,6,0,1,2,3,4,5,6],[3,4,6])])
def snapnew.B13 : List Nat:=[0,1,3,7,0,0,32,127]
theorem snapnew.tab13 : rtab .any (opsOf Tryz.f17 13) = snapnew.T13:=by kernel_rfl
theorem snapnew.bits13 : waitsOk snapnew.T13.2 snapnew.B13 = true:=by kernel_rfl
theorem new_calls (key : S34 → ByteArray) (k : Nat) (A0 : Option Addr) (c0 : Nat) (l : List S34) (w : World) (hr0 : Kd.C k34 w A0 l.length l) (hc0 : l.length ≤ c0) (hl : l.length ≤ 400)
  (hkey : ∀ d ∈ l,def_Key.f k d.f0 d.f1 d.f2 d.f3 d.f4 d.f5 = some (key d) ∧ (key d).size ≤ 1000000 ∧ d.f3.length ≤ 1000000) :
  Calls Tryz.prog 17 #[.slice A0 l.length c0] w fun e w'=>∃ vv,e = .returned (.tuple #[vv,.int .i64 (newGo key l (.map [])).2]) ∧ ((newGo key l (.map [])).2 = 0 → SnF w' w.heap.size vv (newGo key l (.map [])).1) ∧ ((newGo key l (.map [])).2 ≠ 0 → vv = .pointer none) ∧ Below w.heap.size w w':=by
 have hu34:=Tryz.underlying34
 have HR0:=As.mk hr0
 have HL:=As.mk hl
 have HKEY:=As.mk hkey
 clear hr0 hl hkey
 go_enter Tryz.func17,Tryz.ntmps17
 go_upto_region 2 with (first | ((with_reducible refine gate_dst (N:=10) rfl ?_);refine made_event rfl rfl ?_;intro bp w1 hbp hm hb hsz_;have HM:=As.mk hm;have HB:=As.mk hb;have HSZ:=As.mk hsz_;have HBP:=As.mk hbp;clear hm hb hsz_ hbp))
 have bk_:=blk_new w1 (Obj.cells #[.map (some bp)] 88)
 have hb2_:=bA HB.out (Obj.cells #[.map (some bp)] 88)
 have hm2_:=HM.out.below (bA (Below.refl _ w1) (Obj.cells #[.map (some bp)] 88))
 have HGE:=As.mk (show w.heap.size ≤ w1.heap.size from HB.out.size)
 have HBG:=As.mk (show w.heap.size ≤ bp from Nat.le_of_eq HBP.out.symm)
 generalize w1.alloc (Obj.cells #[.map (some bp)] 88) = W2 at bk_ hb2_ hm2_ ⊢
 clear HSZ HB HM HBP
 generalize w1.heap.size = gp at bk_ HGE ⊢
 have HCZ:=As.mk (show W2.cell? ⟨gp,0,none⟩ = some (.map (some bp)) from (bC bk_ 0).trans rfl)
 have HM:=As.mk hm2_
 have HB:=As.mk hb2_
 clear bk_ hb2_ hm2_
 go_wp2_with (fail)
 go_loopg [15] l.length (fun kq v15 w'=>∃ (x : Nat) (M : DataW S34),v15 = .int .i64 (x : Int) ∧ x ≤ l.length ∧ As (kq + x = l.length) ∧ As ((newGo key l (.map [])) = newGo key (l.drop x) M) ∧ As (Maps.size M ≤ x) ∧ As (MapD w' bp M) ∧ As (w'.cell? ⟨gp,0,none⟩ = some (.map (some bp))) ∧ As (Below w.heap.size w w'))
 case atStart=>exact ⟨0,.map [],rfl,Nat.zero_le _,⟨rfl⟩,⟨rfl⟩,⟨Nat.le_refl _⟩,HM,HCZ,HB⟩
 case round =>
  clear HB HM HCZ
  obtain ⟨x,M,rfl,p1,HKQ,HNG,HSM,HM,HCZ,HB⟩:=hrel
  by_cases hlt : x < l.length
  ·have c0_ : decide ((x : Int) < (l.length : Int)) = true:=decide_eq_true (by omega)
   have HX:=As.mk (show x < l.length ∧ l.length ≤ 400 from ⟨hlt,HL.out⟩)
   have hw1 : wrap64 ((x : Int) + 1) = ((x + 1 : Nat) : Int):=by rw [IntWalk.wrap64_in _ (by have:=HL.out;omega)];omega
   obtain ⟨d,hd⟩ : ∃ d,d = l[x]:=⟨_,rfl⟩
   have hkd:=HKEY.out d (by rw [hd];exact List.getElem_mem hlt)
   obtain ⟨ky,hky⟩ : ∃ ky,ky = key d:=⟨_,rfl⟩
   rw [← hky] at hkd
   have HKY:=As.mk hkd.1
   have HKS:=As.mk (show ky.size ≤ maxLen from Nat.le_trans hkd.2.1 (by decide))
   have HLV:=As.mk hkd.2.2
   have HD:=As.mk (show l.drop x = d :: l.drop (x + 1) by rw [List.drop_eq_getElem_cons hlt,hd])
   have HKYD:=As.mk hky
   have hng:=HNG.out
   rw [HD.out,newGo,← hky] at hng
   obtain ⟨ad,A2,c2,e_,q0,q1,q2,q3,q4,q5,hl2,hC2⟩:=at_T34 HR0.out (x : Int) (by omega) (by omega)
   rw [rd_at l x hlt,← hd] at q0 q1 q2 q3 q4 q5 hl2 hC2
   rw [Int.toNat_natCast] at q0 q1 q2 q3 q4 q5
   subst e_
   have HL2:=As.mk hl2
   have HC2:=As.mk (Kd.C_below hC2 HB.out)
   replace q0:=(HB.out.cell (World.block_lt_of_cell? w _ q0)).trans q0
   replace q1:=(HB.out.cell (World.block_lt_of_cell? w _ q1)).trans q1
   replace q2:=(HB.out.cell (World.block_lt_of_cell? w _ q2)).trans q2
   replace q3:=(HB.out.cell (World.block_lt_of_cell? w _ q3)).trans q3
   replace q4:=(HB.out.cell (World.block_lt_of_cell? w _ q4)).trans q4
   replace q5:=(HB.out.cell (World.block_lt_of_cell? w _ q5)).trans q5
   have p1_ : ((x : Int) < (l.length : Int)) = True:=eq_true (by omega)
   have p2_ : (x < l.length) = True:=eq_true hlt
   have HBR:=HB
   clear HB hl2 hC2 hd hky hkd hlt
   have hcz_0:=HCZ.out
   by_cases h0 : ky.size = 0
   ·rw [if_pos h0] at hng
    have HNR:=As.mk hng
    have hk0:=empty_ h0
    clear hng h0
    subst hk0
    go_upto_region 5 with (fail)
    have bk_:=blk_new wr (Obj.cells #[.int .i64 d.f0,.string d.f1,.string d.f2,.slice A2 d.f3.length c2,.string d.f4,.string d.f5] 34)
    have hb_:=bA (Below.refl wr.heap.size wr) (Obj.cells #[.int .i64 d.f0,.string d.f1,.string d.f2,.slice A2 d.f3.length c2,.string d.f4,.string d.f5] 34)
    generalize wr.alloc (Obj.cells #[.int .i64 d.f0,.string d.f1,.string d.f2,.slice A2 d.f3.length c2,.string d.f4,.string d.f5] 34) = W5 at bk_ hb_ ⊢
    obtain ⟨gq,hgq⟩ : ∃ gq,gq = wr.heap.size:=⟨_,rfl⟩
    rw [← hgq] at bk_ ⊢
    have HGQ:=As.mk hgq
    clear hgq q0 q1 q2 q3 q4 q5
    have HB:=As.mk hb_
    have HQB:=As.mk (Below.refl W5.heap.size W5)
    have BKQ:=As.mk bk_
    clear hb_ bk_
    have hq_0 : W5.cell? ⟨gq,0,none⟩ = some (.int .i64 d.f0):=(bC BKQ.out 0).trans rfl
    have hq_1 : W5.cell? ⟨gq,1,none⟩ = some (.string d.f1):=(bC BKQ.out 1).trans rfl
    have hq_2 : W5.cell? ⟨gq,2,none⟩ = some (.string d.f2):=(bC BKQ.out 2).trans rfl
    have hq_3 : W5.cell? ⟨gq,3,none⟩ = some (.slice A2 d.f3.length c2):=(bC BKQ.out 3).trans rfl
    have hq_4 : W5.cell? ⟨gq,4,none⟩ = some (.string d.f4):=(bC BKQ.out 4).trans rfl
    have hq_5 : W5.cell? ⟨gq,5,none⟩ = some (.string d.f5):=(bC BKQ.out 5).trans rfl
    have hcz_0:=pC HB.out HCZ.out
    cases hh : Maps.has M (KL ⟨#[]⟩) with
    | false =>
     have HH:=As.mk hh
     clear hh
     go_wp2_with (first | (go_at_call 60;(with_reducible refine (def_Key.calls k d.f0 d.f1 d.f2 A2 c2 d.f3 d.f4 d.f5 _ _ ?s1 HL2.out HKY.out).mono ?_);(case s1=>exact C_cells HC2.out (.below (by repeat (first | (with_reducible first | exact HB.out | apply bA | apply bN | apply bD) | exact HB.out))));rintro e wk ⟨rfl,hb_⟩;have n1_:=As.mk (blk_below BKQ.out (bS (by repeat (first | (with_reducible first | exact HQB.out | apply bA | apply bN | apply bD) | exact HQB.out)) hb_));have n0_:=As.mk (bS (by repeat (first | (with_reducible first | exact HB.out | apply bA | apply bN | apply bD) | exact HB.out)) hb_);clear hq_0 hq_1 hq_2 hq_3 hq_4 hq_5;clear HB BKQ hb_ HQB;have HB:=n0_;have BKQ:=n1_;have HQB:=As.mk (Below.refl wk.heap.size wk);clear n0_ n1_;have hcz_0:=pC HB.out HCZ.out;have hq_0 : wk.cell? ⟨gq,0,none⟩ = some (.int .i64 d.f0):=(bC BKQ.out 0).trans rfl;have hq_1 : wk.cell? ⟨gq,1,none⟩ = some (.string d.f1):=(bC BKQ.out 1).trans rfl;have hq_2 : wk.cell? ⟨gq,2,none⟩ = some (.string d.f2):=(bC BKQ.out 2).trans rfl;have hq_3 : wk.cell? ⟨gq,3,none⟩ = some (.slice A2 d.f3.length c2):=(bC BKQ.out 3).trans rfl;have hq_4 : wk.cell? ⟨gq,4,none⟩ = some (.string d.f4):=(bC BKQ.out 4).trans rfl;have hq_5 : wk.cell? ⟨gq,5,none⟩ = some (.string d.f5):=(bC BKQ.out 5).trans rfl) | (at_lookup;refine look_no rfl _ _ rfl bp M _ rfl rfl HKS.out (HM.out.below (by repeat (first | (with_reducible first | exact HB.out | apply bA | apply bN | apply bD) | exact HB.out))) HH.out ?_))
     refine bodyPost_ret (results_tmp2 rfl _ _ _) rfl ?_
     rw [HNR.out]
     exact ⟨_,rfl,fun h_=>absurd (show (31 : Int) = 0 from h_) (by decide),fun _=>rfl,bS HBR.out (by repeat (first | (with_reducible first | exact HB.out | apply bA | apply bN | apply bD) | exact HB.out))⟩
    | true =>
     have HH:=As.mk hh
     clear hh
     go_wp2_with (first | (go_at_call 60;(with_reducible refine (def_Key.calls k d.f0 d.f1 d.f2 A2 c2 d.f3 d.f4 d.f5 _ _ ?s1 HL2.out HKY.out).mono ?_);(case s1=>exact C_cells HC2.out (.below (by repeat (first | (with_reducible first | exact HB.out | apply bA | apply bN | apply bD) | exact HB.out))));rintro e wk ⟨rfl,hb_⟩;have n1_:=As.mk (blk_below BKQ.out (bS (by repeat (first | (with_reducible first | exact HQB.out | apply bA | apply bN | apply bD) | exact HQB.out)) hb_));have n0_:=As.mk (bS (by repeat (first | (with_reducible first | exact HB.out | apply bA | apply bN | apply bD) | exact HB.out)) hb_);clear hq_0 hq_1 hq_2 hq_3 hq_4 hq_5;clear HB BKQ hb_ HQB;have HB:=n0_;have BKQ:=n1_;have HQB:=As.mk (Below.refl wk.heap.size wk);clear n0_ n1_;have hcz_0:=pC HB.out HCZ.out;have hq_0 : wk.cell? ⟨gq,0,none⟩ = some (.int .i64 d.f0):=(bC BKQ.out 0).trans rfl;have hq_1 : wk.cell? ⟨gq,1,none⟩ = some (.string d.f1):=(bC BKQ.out 1).trans rfl;have hq_2 : wk.cell? ⟨gq,2,none⟩ = some (.string d.f2):=(bC BKQ.out 2).trans rfl;have hq_3 : wk.cell? ⟨gq,3,none⟩ = some (.slice A2 d.f3.length c2):=(bC BKQ.out 3).trans rfl;have hq_4 : wk.cell? ⟨gq,4,none⟩ = some (.string d.f4):=(bC BKQ.out 4).trans rfl;have hq_5 : wk.cell? ⟨gq,5,none⟩ = some (.string d.f5):=(bC BKQ.out 5).trans rfl) | (at_lookup;refine look_yes rfl _ _ rfl bp M _ rfl rfl HKS.out (HM.out.below (by repeat (first | (with_reducible first | exact HB.out | apply bA | apply bN | apply bD) | exact HB.out))) HH.out ?_;intro dz Az cz _ _ _))
     refine bodyPost_ret (results_tmp2 rfl _ _ _) rfl ?_
     rw [HNR.out]
     exact ⟨_,rfl,fun h_=>absurd (show (31 : Int) = 0 from h_) (by decide),fun _=>rfl,bS HBR.out (by repeat (first | (with_reducible first | exact HB.out | apply bA | apply bN | apply bD) | exact HB.out))⟩
   ·rw [if_neg h0] at hng
    have z1 : (ky.toList == ([] : List UInt8)) = false:=nonempty_ (Nat.pos_of_ne_zero h0)
    clear h0
    cases hh : Maps.has M (KL ky) with
    | true =>
     rw [if_pos hh] at hng
     have HNR:=As.mk hng
     have HH:=As.mk hh
     clear hh hng
     go_upto_region 5 with (fail)
     have bk_:=blk_new wr (Obj.cells #[.int .i64 d.f0,.string d.f1,.string d.f2,.slice A2 d.f3.length c2,.string d.f4,.string d.f5] 34)
     have hb_:=bA (Below.refl wr.heap.size wr) (Obj.cells #[.int .i64 d.f0,.string d.f1,.string d.f2,.slice A2 d.f3.length c2,.string d.f4,.string d.f5] 34)
     generalize wr.alloc (Obj.cells #[.int .i64 d.f0,.string d.f1,.string d.f2,.slice A2 d.f3.length c2,.string d.f4,.string d.f5] 34) = W5 at bk_ hb_ ⊢
     obtain ⟨gq,hgq⟩ : ∃ gq,gq = wr.heap.size:=⟨_,rfl⟩
     rw [← hgq] at bk_ ⊢
     have HGQ:=As.mk hgq
     clear hgq q0 q1 q2 q3 q4 q5
     have HB:=As.mk hb_
     have HQB:=As.mk (Below.refl W5.heap.size W5)
     have BKQ:=As.mk bk_
     clear hb_ bk_
     have hq_0 : W5.cell? ⟨gq,0,none⟩ = some (.int .i64 d.f0):=(bC BKQ.out 0).trans rfl
     have hq_1 : W5.cell? ⟨gq,1,none⟩ = some (.string d.f1):=(bC BKQ.out 1).trans rfl
     have hq_2 : W5.cell? ⟨gq,2,none⟩ = some (.string d.f2):=(bC BKQ.out 2).trans rfl
     have hq_3 : W5.cell? ⟨gq,3,none⟩ = some (.slice A2 d.f3.length c2):=(bC BKQ.out 3).trans rfl
     have hq_4 : W5.cell? ⟨gq,4,none⟩ = some (.string d.f4):=(bC BKQ.out 4).trans rfl
     have hq_5 : W5.cell? ⟨gq,5,none⟩ = some (.string d.f5):=(bC BKQ.out 5).trans rfl
     have hcz_0:=pC HB.out HCZ.out
     go_wp2_with (first | (go_at_call 60;(with_reducible refine (def_Key.calls k d.f0 d.f1 d.f2 A2 c2 d.f3 d.f4 d.f5 ky _ ?s1 HL2.out HKY.out).mono ?_);(case s1=>exact C_cells HC2.out (.below (by repeat (first | (with_reducible first | exact HB.out | apply bA | apply bN | apply bD) | exact HB.out))));rintro e wk ⟨rfl,hb_⟩;have n1_:=As.mk (blk_below BKQ.out (bS (by repeat (first | (with_reducible first | exact HQB.out | apply bA | apply bN | apply bD) | exact HQB.out)) hb_));have n0_:=As.mk (bS (by repeat (first | (with_reducible first | exact HB.out | apply bA | apply bN | apply bD) | exact HB.out)) hb_);clear hq_0 hq_1 hq_2 hq_3 hq_4 hq_5;clear HB BKQ hb_ HQB;have HB:=n0_;have BKQ:=n1_;have HQB:=As.mk (Below.refl wk.heap.size wk);clear n0_ n1_;have hcz_0:=pC HB.out HCZ.out;have hq_0 : wk.cell? ⟨gq,0,none⟩ = some (.int .i64 d.f0):=(bC BKQ.out 0).trans rfl;have hq_1 : wk.cell? ⟨gq,1,none⟩ = some (.string d.f1):=(bC BKQ.out 1).trans rfl;have hq_2 : wk.cell? ⟨gq,2,none⟩ = some (.string d.f2):=(bC BKQ.out 2).trans rfl;have hq_3 : wk.cell? ⟨gq,3,none⟩ = some (.slice A2 d.f3.length c2):=(bC BKQ.out 3).trans rfl;have hq_4 : wk.cell? ⟨gq,4,none⟩ = some (.string d.f4):=(bC BKQ.out 4).trans rfl;have hq_5 : wk.cell? ⟨gq,5,none⟩ = some (.string d.f5):=(bC BKQ.out 5).trans rfl) | (at_lookup;refine look_yes rfl _ _ rfl bp M ky rfl rfl HKS.out (HM.out.below (by repeat (first | (with_reducible first | exact HB.out | apply bA | apply bN | apply bD) | exact HB.out))) HH.out ?_;intro dz Az cz _ _ _))
     refine bodyPost_ret (results_tmp2 rfl _ _ _) rfl ?_
     rw [HNR.out]
     exact ⟨_,rfl,fun h_=>absurd (show (45 : Int) = 0 from h_) (by decide),fun _=>rfl,bS HBR.out (by repeat (first | (with_reducible first | exact HB.out | apply bA | apply bN | apply bD) | exact HB.out))⟩
    | false =>
     rw [if_neg (by rw [hh];decide)] at hng
     have HNR:=As.mk hng
     have HH:=As.mk hh
     clear hh hng
     have hlf : (((Maps.size M : Nat) : Int) == 500) = false:=beq_eq_false_iff_ne.mpr (by have:=HSM.out;have:=HX.out;omega)
     have hlf2 : decide (((Maps.size M : Nat) : Int) = 500) = false:=decide_eq_false (by have:=HSM.out;have:=HX.out;omega)
     go_upto_region 5 with (fail)
     have bk_:=blk_new wr (Obj.cells #[.int .i64 d.f0,.string d.f1,.string d.f2,.slice A2 d.f3.length c2,.string d.f4,.string d.f5] 34)
     have hb_:=bA (Below.refl wr.heap.size wr) (Obj.cells #[.int .i64 d.f0,.string d.f1,.string d.f2,.slice A2 d.f3.length c2,.string d.f4,.string d.f5] 34)
     generalize wr.alloc (Obj.cells #[.int .i64 d.f0,.string d.f1,.string d.f2,.slice A2 d.f3.length c2,.string d.f4,.string d.f5] 34) = W5 at bk_ hb_ ⊢
     obtain ⟨gq,hgq⟩ : ∃ gq,gq = wr.heap.size:=⟨_,rfl⟩
     rw [← hgq] at bk_ ⊢
     have HGQ:=As.mk hgq
     clear hgq q0 q1 q2 q3 q4 q5
     have HB:=As.mk hb_
     have HQB:=As.mk (Below.refl W5.heap.size W5)
     have BKQ:=As.mk bk_
     clear hb_ bk_
     have hq_0 : W5.cell? ⟨gq,0,none⟩ = some (.int .i64 d.f0):=(bC BKQ.out 0).trans rfl
     have hq_1 : W5.cell? ⟨gq,1,none⟩ = some (.string d.f1):=(bC BKQ.out 1).trans rfl
     have hq_2 : W5.cell? ⟨gq,2,none⟩ = some (.string d.f2):=(bC BKQ.out 2).trans rfl
     have hq_3 : W5.cell? ⟨gq,3,none⟩ = some (.slice A2 d.f3.length c2):=(bC BKQ.out 3).trans rfl
     have hq_4 : W5.cell? ⟨gq,4,none⟩ = some (.string d.f4):=(bC BKQ.out 4).trans rfl
     have hq_5 : W5.cell? ⟨gq,5,none⟩ = some (.string d.f5):=(bC BKQ.out 5).trans rfl
     have hcz_0:=pC HB.out HCZ.out
     go_upto_region 13 with (first | (go_at_call 60;(with_reducible refine (def_Key.calls k d.f0 d.f1 d.f2 A2 c2 d.f3 d.f4 d.f5 ky _ ?s1 HL2.out HKY.out).mono ?_);(case s1=>exact C_cells HC2.out (.below (by repeat (first | (with_reducible first | exact HB.out | apply bA | apply bN | apply bD) | exact HB.out))));rintro e wk ⟨rfl,hb_⟩;have n1_:=As.mk (blk_below BKQ.out (bS (by repeat (first | (with_reducible first | exact HQB.out | apply bA | apply bN | apply bD) | exact HQB.out)) hb_));have n0_:=As.mk (bS (by repeat (first | (with_reducible first | exact HB.out | apply bA | apply bN | apply bD) | exact HB.out)) hb_);clear hq_0 hq_1 hq_2 hq_3 hq_4 hq_5;clear HB BKQ hb_ HQB;have HB:=n0_;have BKQ:=n1_;have HQB:=As.mk (Below.refl wk.heap.size wk);clear n0_ n1_;have hcz_0:=pC HB.out HCZ.out;have hq_0 : wk.cell? ⟨gq,0,none⟩ = some (.int .i64 d.f0):=(bC BKQ.out 0).trans rfl;have hq_1 : wk.cell? ⟨gq,1,none⟩ = some (.string d.f1):=(bC BKQ.out 1).trans rfl;have hq_2 : wk.cell? ⟨gq,2,none⟩ = some (.string d.f2):=(bC BKQ.out 2).trans rfl;have hq_3 : wk.cell? ⟨gq,3,none⟩ = some (.slice A2 d.f3.length c2):=(bC BKQ.out 3).trans rfl;have hq_4 : wk.cell? ⟨gq,4,none⟩ = some (.string d.f4):=(bC BKQ.out 4).trans rfl;have hq_5 : wk.cell? ⟨gq,5,none⟩ = some (.string d.f5):=(bC BKQ.out 5).trans rfl;have hcz_1 : (wk.alloc (Obj.cells #[.int .i64 0,.string ⟨#[]⟩,.string ⟨#[]⟩,.slice none 0 0,.string ⟨#[]⟩,.string ⟨#[]⟩] 34)).cell? ⟨gp,0,none⟩ = some (.map (some bp)):=pC (bA (Below.refl _ wk) _) hcz_0) | (at_lookup;refine look_no rfl _ _ rfl bp M ky rfl rfl HKS.out (HM.out.below (by repeat (first | (with_reducible first | exact HB.out | apply bA | apply bN | apply bD) | exact HB.out))) HH.out ?_) | (at_len;refine len_event rfl _ rfl bp M rfl (HM.out.below (by repeat (first | (with_reducible first | exact HB.out | apply bA | apply bN | apply bD) | exact HB.out))) ?_))
     have hb13_ : Below wr.heap.size wr (wk.alloc (Obj.cells #[.int .i64 0,.string ⟨#[]⟩,.string ⟨#[]⟩,.slice none 0 0,.string ⟨#[]⟩,.string ⟨#[]⟩] 34)):=(by repeat (first | (with_reducible first | exact HB.out | apply bA | apply bN | apply bD) | exact HB.out))
     have bk13_ : (wk.alloc (Obj.cells #[.int .i64 0,.string ⟨#[]⟩,.string ⟨#[]⟩,.slice none 0 0,.string ⟨#[]⟩,.string ⟨#[]⟩] 34)).heap[gq]? = some (Obj.cells #[.int .i64 d.f0,.string d.f1,.string d.f2,.slice A2 d.f3.length c2,.string d.f4,.string d.f5] 34):=blk_below BKQ.out (by repeat (first | (with_reducible first | exact HQB.out | apply bA | apply bN | apply bD) | exact HQB.out))
     clear hcz_0 hcz_1 HB BKQ HQB
     clear hq_0 hq_1 hq_2 hq_3 hq_4 hq_5
     generalize wk.alloc (Obj.cells #[.int .i64 0,.string ⟨#[]⟩,.string ⟨#[]⟩,.slice none 0 0,.string ⟨#[]⟩,.string ⟨#[]⟩] 34) = W13 at hb13_ bk13_ ⊢
     have hcz_0 : W13.drew.cell? ⟨gp,0,none⟩ = some (.map (some bp)):=pC hb13_ HCZ.out
     have hq_0 : W13.drew.cell? ⟨gq,0,none⟩ = some (.int .i64 d.f0):=(bC bk13_ 0).trans rfl
     have hq_1 : W13.drew.cell? ⟨gq,1,none⟩ = some (.string d.f1):=(bC bk13_ 1).trans rfl
     have hq_2 : W13.drew.cell? ⟨gq,2,none⟩ = some (.string d.f2):=(bC bk13_ 2).trans rfl
     have hq_3 : W13.drew.cell? ⟨gq,3,none⟩ = some (.slice A2 d.f3.length c2):=(bC bk13_ 3).trans rfl
     have hq_4 : W13.drew.cell? ⟨gq,4,none⟩ = some (.string d.f4):=(bC bk13_ 4).trans rfl
     have hq_5 : W13.drew.cell? ⟨gq,5,none⟩ = some (.string d.f5):=(bC bk13_ 5).trans rfl
     have HB:=As.mk (bD hb13_)
     refine start_ (n:=8) (S:=fun w'=>w'.cell? ⟨gp,0,none⟩ = some (.map (some bp)) ∧ w'.cell? ⟨gq,0,none⟩ = some (.int .i64 d.f0) ∧ w'.cell? ⟨gq,1,none⟩ = some (.string d.f1) ∧ w'.cell? ⟨gq,2,none⟩ = some (.string d.f2) ∧ w'.cell? ⟨gq,3,none⟩ = some (.slice A2 d.f3.length c2) ∧ w'.cell? ⟨gq,4,none⟩ = some (.string d.f4) ∧ w'.cell? ⟨gq,5,none⟩ = some (.string d.f5)) (ds:=[7]) #[false,false,false,false,false,false,false,false] (by kernel_rfl) rfl rfl ⟨hcz_0,hq_0,hq_1,hq_2,hq_3,hq_4,hq_5⟩ (fun hHeld=>?_);refine with_tabW snapnew.tab13 snapnew.bits13 (fun HT_ HW_=>?_)
     refine pure_ (i:=0) (N:=some 42) (v:=?_) (a':=?_) #[true,false,false,false,false,false,false,false] rfl rfl (any_of HT_.out (by kernel_rfl)) (fun _ _ _ h=>h) (Or.inl ⟨by rfl,?_⟩) ?_ ?_
     rotate_left
     ·intro w'
      go_simp
      with_reducible rfl
     rotate_left
     ·simp only [Act.put,List.setIfInBounds_toArray,List.set_cons_zero,List.set_cons_succ,i64_w,i32_w]
      rfl
     refine pure_ (i:=1) (N:=some 43) (v:=?_) (a':=?_) #[true,true,false,false,false,false,false,false] rfl rfl (any_of HT_.out (by kernel_rfl)) (fun _ _ _ h=>h) (Or.inl ⟨by rfl,?_⟩) ?_ ?_
     rotate_left
     ·intro w'
      go_simp
      with_reducible rfl
     rotate_left
     ·simp only [Act.put,List.setIfInBounds_toArray,List.set_cons_zero,List.set_cons_succ,i64_w,i32_w]
      rfl
     refine pure_ (i:=2) (N:=some 44) (v:=?_) (a':=?_) #[true,true,true,false,false,false,false,false] rfl rfl (any_of HT_.out (by kernel_rfl)) (fun _ _ _ h=>h) (Or.inl ⟨by rfl,?_⟩) ?_ ?_
     rotate_left
     ·intro w'
      go_simp
      with_reducible rfl
     rotate_left
     ·simp only [Act.put,List.setIfInBounds_toArray,List.set_cons_zero,List.set_cons_succ,i64_w,i32_w]
      rfl
     refine take_ (i:=3) (N:=some 45) (v:=?_) (a':=?_) #[true,true,true,true,false,false,false,false] rfl rfl (take_ofW HT_.out HW_.out (by kernel_rfl)) (fun _ _ _ h=>h) (Or.inl ⟨by rfl,?_⟩) hHeld ?_ ?_
     rotate_left
     ·rintro w' ⟨s0,s1,s2,s3,s4,s5,s6⟩
      go_simp
      with_reducible rfl
     rotate_left
     ·simp only [Act.put,List.setIfInBounds_toArray,List.set_cons_zero,List.set_cons_succ,i64_w,i32_w]
      rfl
     refine pure_ (i:=4) (N:=some 46) (v:=?_) (a':=?_) #[true,true,true,true,true,false,false,false] rfl rfl (any_of HT_.out (by kernel_rfl)) (fun _ _ _ h=>h) (Or.inl ⟨by rfl,?_⟩) ?_ ?_
     rotate_left
     ·intro w'
      go_simp
      with_reducible rfl
     rotate_left
     ·simp only [Act.put,List.setIfInBounds_toArray,List.set_cons_zero,List.set_cons_succ,i64_w,i32_w]
      rfl
     refine take_ (i:=5) (N:=some 47) (v:=?_) (a':=?_) #[true,true,true,true,true,true,false,false] rfl rfl (take_ofW HT_.out HW_.out (by kernel_rfl)) (fun _ _ _ h=>h) (Or.inl ⟨by rfl,?_⟩) hHeld ?_ ?_
     rotate_left
     ·rintro w' ⟨s0,s1,s2,s3,s4,s5,s6⟩
      go_simp
      with_reducible rfl
     rotate_left
     ·simp only [Act.put,List.setIfInBounds_toArray,List.set_cons_zero,List.set_cons_succ,i64_w,i32_w]
      rfl
     refine one_ (i:=6) (N:=some 48) #[true,true,true,true,true,true,true,false] rfl rfl (one_of HT_.out (by kernel_rfl)) (by decide) (fun K hK=>?_)
     refine goes_ Tryz.func61 (by kernel_rfl) rfl #[.agg #[.int .i64 d.f0,.string d.f1,.string d.f2,.slice A2 d.f3.length c2,.string d.f4,.string d.f5]] (by rfl) rfl rfl (by (try simp only [List.map_toArray,List.map_cons,List.map_nil]);first | done | rfl | (simp only [List.length_drop,List.length_take];rfl)) ?_
     with_reducible refine (clone_calls _ d A2 c2 HL2.out (C_cells HC2.out (.below HB.out)) HLV.out).mono ?_
     rintro er w6 ⟨A3,c3,rfl,hl3,hC3,hb6⟩
     refine ⟨_,rfl,?_⟩
     refine hK.out _ _ ⟨(pC hb6 hcz_0),(pC hb6 hq_0),(pC hb6 hq_1),(pC hb6 hq_2),(pC hb6 hq_3),(pC hb6 hq_4),(pC hb6 hq_5)⟩ (fun hHeld=>?_)
     clear hK K
     refine norm_ (a':=?_) ?_ ?_
     rotate_left
     ·show Act.put _ (some 48) _ = _
      simp only [Act.put,List.setIfInBounds_toArray,List.set_cons_zero,List.set_cons_succ,i64_w,i32_w]
      rfl
     refine last_ (i:=7) (N:=none) #[true,true,true,true,true,true,true,true] rfl rfl (one_of HT_.out (by kernel_rfl)) (by decide) (fun K hK=>?_)
     refine put_step (by rfl) (.tmp 45) (.tmp 46) (.tmp 48) rfl bp M ky d _ rfl rfl rfl HKS.out ((HM.out.below HB.out).below hb6) (by have:=HSM.out;have:=HX.out;simp only [maxLen];omega) ⟨A3,c3,rfl,hl3,hC3⟩ ?_
     intro w7 hm7 hg7 hk7
     refine hK.out _ _ ?_
     clear hK K
     refine done_ (done_of HT_.out (by kernel_rfl)) ?_
     go_wp2_with (fail)
     go_roundg (gk - 1)
     case measure=>have:=HKQ.out;have:=HX.out;omega
     case rel=>exact ⟨x + 1,_,(by first | rfl | rw [hw1]),HX.out.1,⟨by have:=HKQ.out;have:=HX.out;omega⟩,⟨by rw [HNR.out,HKYD.out]⟩,⟨Nat.le_trans (size_put _ _ _) (by have:=HSM.out;omega)⟩,⟨hm7⟩,⟨hk7 _ _ (pC hb6 hcz_0)⟩,⟨below_own (bS HBR.out (bS HB.out hb6)) (bS HBR.out (bS HB.out hb6)).size hg7 HBG.out⟩⟩
  ·have c0_ : decide ((x : Int) < (l.length : Int)) = false:=decide_eq_false (by omega)
   obtain rfl : x = l.length:=by omega
   have hng:=HNG.out
   rw [List.drop_length] at hng
   have HNR:=As.mk hng
   clear hng
   go_wp2_with (fail)
   refine bodyPost_ret (results_tmp2 rfl _ _ _) rfl ?_
   rw [HNR.out]
   exact ⟨_,rfl,fun _=>⟨gp,bp,rfl,HCZ.out,HM.out,HGE.out,HBG.out⟩,fun h_=>absurd rfl h_,HB.out⟩
end Go.Proofs.YtmlebgikdegjjaaGreatDoor.Hd
