/- The reference's Parse, for all octets. -/
import Derived.Test.YtmlebgikdegjjaaGreatDoorVc
import Derived.Test.YtmlebgikdegjjaaGreatDoorQd
import Derived.Test.YtmlebgikdegjjaaGreatDoorUx
import Derived.Test.YtmlebgikdegjjaaGreatDoorPAllx7
set_option maxHeartbeats 16000000
set_option maxRecDepth 100000
namespace Go.Proofs.YtmlebgikdegjjaaGreatDoor.Hd
open Go.Maps Go.RowKit Go.Proofs.YtmlebgikdegjjaaGreatDoorW.PrintWords Go.Proofs.YtmlebgikdegjjaaGreatDoorW.PrintLast Go.Proofs.YtmlebgikdegjjaaGreatDoorW.PrintMore Go.Proofs.YtmlebgikdegjjaaGreatDoor.PAll
attribute [local go_sem] max2_int min2_int max_two min_two max_three min_three max_four min_four
set_option linter.unusedVariables false
set_option linter.unusedSimpArgs false
def refparse.T4 : Bool × List (List Nat × List Nat):=(true,[([],[]),([0],[0]),([1],[1]),([2],[2]),([],[]),([3,4,0,1,2,3,4],[3])])
def refparse.B4 : List Nat:=[0,1,3,7,0,31]
theorem refparse.tab4 : rtab .any (opsOf Tryz.f59 4) = refparse.T4:=by kernel_rfl
theorem refparse.bits4 : waitsOk refparse.T4.2 refparse.B4 = true:=by kernel_rfl
def refparse.T14 : Bool × List (List Nat × List Nat):=(true,[([],[]),([0],[0]),([1],[1]),([2],[2]),([3,2,2],[2,3]),([2],[2]),([2],[2]),([6,2],[2,6]),([5,7,2],[2,5,7]),([8,2],[2,8]),([9,4,2],[2,9]),([4,10,2],[2,4,10]),([2,11],[2,11])])
def refparse.B14 : List Nat:=[0,1,3,7,15,7,7,71,231,487,1023,2047,4095]
theorem refparse.tab14 : rtab .any (opsOf Tryz.f59 14) = refparse.T14:=by kernel_rfl
theorem refparse.bits14 : waitsOk refparse.T14.2 refparse.B14 = true:=by kernel_rfl
theorem ite_no_ {c : Bool} {p q : Prop} (h : c = false) (k : q) : if c = true then p else q:=by
 rw [h]
 exact k
theorem FK_new {W : World} {d : S34} {A2 : Option Addr} {c2 B : Nat} (hl : d.f3.length ≤ c2) (hC : Kd.string.C W A2 d.f3.length d.f3) (hb : ∀ ad,A2 = some ad → B ≤ ad.block) : Kd.FK k34 W (fun k=>B ≤ k) d [.int .i64 d.f0,.string d.f1,.string d.f2,.slice A2 d.f3.length c2,.string d.f4,.string d.f5] :=
 fun W' hW=>k34_mk W' d hl ⟨hC.1,hC.2.1,fun hn=>by
  obtain ⟨ad,e,hc⟩:=hC.2.2 hn
  refine ⟨ad,e,fun j p hj=>?_⟩
  obtain ⟨c,hs,hr,hcell⟩:=hc j p hj
  refine ⟨c,hs,hr,fun i u hu=>?_⟩
  have h1:=hcell i u hu
  have h2:=cell_lt h1
  rw [ad_block] at h2
  have h3:=hW ad.block (hb ad e) h2
  unfold World.cell? at h1 ⊢
  rw [ad_block] at h1 ⊢
  rw [h3]
  exact h1⟩
theorem rparse_num (key : S34 → ByteArray) (bs : List Int) (w : World) (hok : BytesOk bs) (n e1 : Int) (b1 : List Int) (hq : numR bs 0 = (n,b1,e1)) (he : e1 ≠ 0) :
  Calls Tryz.prog 59 #[.string (strOfNums bs)] w fun e w'=>∃ A c,e = .returned (.tuple #[.slice A (parseR key bs).1.length c,.int .i64 (parseR key bs).2]) ∧ Kd.V k34 34 w' 0 (fun _=>True) (.slice A (parseR key bs).1.length c) (parseR key bs).1 ∧ Below w.heap.size w w':=by
 have HOK:=As.mk hok
 have HQ:=As.mk hq
 have HPR:=As.mk (parseR_num (key:=key) hq he)
 have z1 : (e1 != 0) = true:=bne_iff_ne.mpr he
 clear hok hq he
 go_enter Tryz.func59,Tryz.ntmps59
 go_upto_region 2 with (fail)
 have bk_:=blk_new w (Obj.cells #[.string (strOfNums bs),.int .i64 0] 136)
 have hb_:=bA (Below.refl w.heap.size w) (Obj.cells #[.string (strOfNums bs),.int .i64 0] 136)
 generalize w.alloc (Obj.cells #[.string (strOfNums bs),.int .i64 0] 136) = W1 at bk_ hb_ ⊢
 obtain ⟨gr,hgr⟩ : ∃ gr,gr = w.heap.size:=⟨_,rfl⟩
 rw [← hgr] at bk_ ⊢
 have HI:=As.mk (show RfR w W1 gr bs 0 from ⟨bk_,Nat.le_of_eq hgr.symm⟩)
 have HB:=As.mk hb_
 clear bk_ hb_ hgr
 go_upto_region 4 with (first | (go_at_call 100;(with_reducible refine (num_refs gr bs 0 HOK.out w _ HI.out HB.out).mono ?_);rintro e_ w2 ⟨rfl,hI1,hB1,_⟩;rw [HQ.out] at hI1;rw [HQ.out];dsimp only at hI1 ⊢;have n0_:=As.mk hI1;have n1_:=As.mk hB1;clear HI HB hI1 hB1;have HI:=n0_;have HB:=n1_;clear n0_ n1_;have hczr_0 : w2.cell? ⟨gr,0,none⟩ = some (.string (strOfNums b1)):=(bC HI.out.1 0).trans rfl;have hczr_1 : w2.cell? ⟨gr,1,none⟩ = some (.int .i64 (e1)):=(bC HI.out.1 1).trans rfl))
 refine start_ (n:=6) (S:=fun w'=>w'.cell? ⟨gr,1,none⟩ = some (.int .i64 e1)) (ds:=[]) #[false,false,false,false,false,false] (by kernel_rfl) rfl rfl hczr_1 (fun hHeld=>?_);refine with_tabW refparse.tab4 refparse.bits4 (fun HT_ HW_=>?_)
 refine pure_ (i:=0) (N:=some 20) (v:=?_) (a':=?_) #[true,false,false,false,false,false] rfl rfl (any_of HT_.out (by kernel_rfl)) (fun _ _ _ h=>h) (Or.inl ⟨by rfl,?_⟩) ?_ ?_
 rotate_left
 ·intro w'
  go_simp
  with_reducible rfl
 rotate_left
 ·simp only [Act.put,List.setIfInBounds_toArray,List.set_cons_zero,List.set_cons_succ,i64_w,i32_w]
  rfl
 refine pure_ (i:=1) (N:=some 21) (v:=?_) (a':=?_) #[true,true,false,false,false,false] rfl rfl (any_of HT_.out (by kernel_rfl)) (fun _ _ _ h=>h) (Or.inl ⟨by rfl,?_⟩) ?_ ?_
 rotate_left
 ·intro w'
  go_simp
  with_reducible rfl
 rotate_left
 ·simp only [Act.put,List.setIfInBounds_toArray,List.set_cons_zero,List.set_cons_succ,i64_w,i32_w]
  rfl
 refine pure_ (i:=2) (N:=some 22) (v:=?_) (a':=?_) #[true,true,true,false,false,false] rfl rfl (any_of HT_.out (by kernel_rfl)) (fun _ _ _ h=>h) (Or.inl ⟨by rfl,?_⟩) ?_ ?_
 rotate_left
 ·intro w'
  go_simp
  with_reducible rfl
 rotate_left
 ·simp only [Act.put,List.setIfInBounds_toArray,List.set_cons_zero,List.set_cons_succ,i64_w,i32_w]
  rfl
 refine take_ (i:=3) (N:=some 23) (v:=?_) (a':=?_) #[true,true,true,true,false,false] rfl rfl (take_ofW HT_.out HW_.out (by kernel_rfl)) (fun _ _ _ h=>h) (Or.inl ⟨by rfl,?_⟩) hHeld ?_ ?_
 rotate_left
 ·rintro w' s0
  go_simp
  with_reducible rfl
 rotate_left
 ·simp only [Act.put,List.setIfInBounds_toArray,List.set_cons_zero,List.set_cons_succ,i64_w,i32_w]
  rfl
 refine pure_ (i:=4) (N:=some 2) (v:=?_) (a':=?_) #[true,true,true,true,true,false] rfl rfl (any_of HT_.out (by kernel_rfl)) (fun _ _ _ h=>h) (Or.inl ⟨by rfl,?_⟩) ?_ ?_
 rotate_left
 ·intro w'
  go_simp
  with_reducible rfl
 rotate_left
 ·simp only [Act.put,List.setIfInBounds_toArray,List.set_cons_zero,List.set_cons_succ,i64_w,i32_w]
  rfl
 refine pure_ (i:=5) (N:=some 3) (v:=?_) (a':=?_) #[true,true,true,true,true,true] rfl rfl (any_of HT_.out (by kernel_rfl)) (fun _ _ _ h=>h) (Or.inl ⟨by rfl,?_⟩) ?_ ?_
 rotate_left
 ·intro w'
  go_simp
  with_reducible rfl
 rotate_left
 ·simp only [Act.put,List.setIfInBounds_toArray,List.set_cons_zero,List.set_cons_succ,i64_w,i32_w]
  rfl
 refine done_ (done_of HT_.out (by kernel_rfl)) ?_
 go_wp2_with (fail)
 refine bodyPost_ret (results_tmp2 rfl _ _ _) rfl ?_
 rw [HPR.out]
 exact ⟨none,0,rfl,Kd.V_nil _ _ _ _ _,(by repeat (first | (with_reducible first | exact HB.out | apply bA | apply bN | apply bD) | exact HB.out))⟩
theorem rparse_full (key : S34 → ByteArray) (bs : List Int) (w : World) (hok : BytesOk bs) (n : Int) (b1 : List Int) (hq : numR bs 0 = (n,b1,0)) (hn : n > 500) :
  Calls Tryz.prog 59 #[.string (strOfNums bs)] w fun e w'=>∃ A c,e = .returned (.tuple #[.slice A (parseR key bs).1.length c,.int .i64 (parseR key bs).2]) ∧ Kd.V k34 34 w' 0 (fun _=>True) (.slice A (parseR key bs).1.length c) (parseR key bs).1 ∧ Below w.heap.size w w':=by
 have HOK:=As.mk hok
 have HQ:=As.mk hq
 have HPR:=As.mk (parseR_full (key:=key) hq hn)
 have z1 : decide ((500 : Int) < n) = true:=decide_eq_true hn
 have z2 : ((500 : Int) < n) = True:=eq_true hn
 clear hok hq hn
 go_enter Tryz.func59,Tryz.ntmps59
 go_upto_region 2 with (fail)
 have bk_:=blk_new w (Obj.cells #[.string (strOfNums bs),.int .i64 0] 136)
 have hb_:=bA (Below.refl w.heap.size w) (Obj.cells #[.string (strOfNums bs),.int .i64 0] 136)
 generalize w.alloc (Obj.cells #[.string (strOfNums bs),.int .i64 0] 136) = W1 at bk_ hb_ ⊢
 obtain ⟨gr,hgr⟩ : ∃ gr,gr = w.heap.size:=⟨_,rfl⟩
 rw [← hgr] at bk_ ⊢
 have HI:=As.mk (show RfR w W1 gr bs 0 from ⟨bk_,Nat.le_of_eq hgr.symm⟩)
 have HB:=As.mk hb_
 clear bk_ hb_ hgr
 go_wp2_with (first | (go_at_call 100;(with_reducible refine (num_refs gr bs 0 HOK.out w _ HI.out HB.out).mono ?_);rintro e_ w2 ⟨rfl,hI1,hB1,_⟩;rw [HQ.out] at hI1;rw [HQ.out];dsimp only at hI1 ⊢;have n0_:=As.mk hI1;have n1_:=As.mk hB1;clear HI HB hI1 hB1;have HI:=n0_;have HB:=n1_;clear n0_ n1_;have hczr_0 : w2.cell? ⟨gr,0,none⟩ = some (.string (strOfNums b1)):=(bC HI.out.1 0).trans rfl;have hczr_1 : w2.cell? ⟨gr,1,none⟩ = some (.int .i64 (0)):=(bC HI.out.1 1).trans rfl))
 refine bodyPost_ret (results_tmp2 rfl _ _ _) rfl ?_
 rw [HPR.out]
 exact ⟨none,0,rfl,Kd.V_nil _ _ _ _ _,(by repeat (first | (with_reducible first | exact HB.out | apply bA | apply bN | apply bD) | exact HB.out))⟩
theorem rparse_calls (key : S34 → ByteArray) (bs : List Int) (w : World) (hok : BytesOk bs) (n : Int) (b1 : List Int) (hq : numR bs 0 = (n,b1,0)) (hn : ¬ n > 500) (h0 : 0 ≤ n) (ho1 : BytesOk b1) (hl1 : b1.length ≤ 2000)
  (hinv : ∀ (b : List Int) (d : DV) (b' : List Int) (e' : Int),BytesOk b → readR b 0 = (d,0,b',e') → b = defS (toS d) ++ b' ∧ e' = 0)
  (hkey : ∀ (b : List Int) (d : DV) (b' : List Int) (e' : Int),BytesOk b → b.length ≤ 2000 → readR b 0 = (d,0,b',e') → (∃ k,r07_Key.f k d.kd d.c d.s d.v d.l d.t = some (key (toS d))) ∧ 0 < (key (toS d)).size) :
  Calls Tryz.prog 59 #[.string (strOfNums bs)] w fun e w'=>∃ A c,e = .returned (.tuple #[.slice A (parseR key bs).1.length c,.int .i64 (parseR key bs).2]) ∧ Kd.V k34 34 w' 0 (fun _=>True) (.slice A (parseR key bs).1.length c) (parseR key bs).1 ∧ Below w.heap.size w w':=by
 have hu34:=Tryz.underlying34
 have HOK:=As.mk hok
 have HQ:=As.mk hq
 have HN:=As.mk hn
 have HN0:=As.mk h0
 have HO1:=As.mk ho1
 have HL1:=As.mk hl1
 have HINV:=As.mk hinv
 have HKEY:=As.mk hkey
 have z1 : decide ((500 : Int) < n) = false:=decide_eq_false hn
 have z2 : ((500 : Int) < n) = False:=eq_false hn
 clear hok hq hn h0 ho1 hl1 hinv hkey
 go_enter Tryz.func59,Tryz.ntmps59
 go_upto_region 2 with (fail)
 have bk_:=blk_new w (Obj.cells #[.string (strOfNums bs),.int .i64 0] 136)
 have hb_:=bA (Below.refl w.heap.size w) (Obj.cells #[.string (strOfNums bs),.int .i64 0] 136)
 generalize w.alloc (Obj.cells #[.string (strOfNums bs),.int .i64 0] 136) = W1 at bk_ hb_ ⊢
 obtain ⟨gr,hgr⟩ : ∃ gr,gr = w.heap.size:=⟨_,rfl⟩
 rw [← hgr] at bk_ ⊢
 have HI:=As.mk (show RfR w W1 gr bs 0 from ⟨bk_,Nat.le_of_eq hgr.symm⟩)
 have HB:=As.mk hb_
 clear bk_ hb_ hgr
 go_wp2_with (first | (go_at_call 100;(with_reducible refine (num_refs gr bs 0 HOK.out w _ HI.out HB.out).mono ?_);rintro e_ w2 ⟨rfl,hI1,hB1,_⟩;rw [HQ.out] at hI1;rw [HQ.out];dsimp only at hI1 ⊢;have n0_:=As.mk hI1;have n1_:=As.mk hB1;clear HI HB hI1 hB1;have HI:=n0_;have HB:=n1_;clear n0_ n1_;have hczr_0 : w2.cell? ⟨gr,0,none⟩ = some (.string (strOfNums b1)):=(bC HI.out.1 0).trans rfl;have hczr_1 : w2.cell? ⟨gr,1,none⟩ = some (.int .i64 (0)):=(bC HI.out.1 1).trans rfl))
 clear z1 z2 hczr_0 hczr_1
 go_loopg [6,7] n.toNat (fun kq v6 v7 w'=>∃ (x : Nat) (b : List Int) (acc : List S34),v7 = .int .i64 (x : Int) ∧ x ≤ n.toNat ∧ As (kq + x = n.toNat) ∧ As (acc.length = x) ∧ As (parseL key n.toNat b1 [] = parseL key (n.toNat - x) b acc) ∧ As (RfR w w' gr b 0) ∧ As (BytesOk b) ∧ As (b.length ≤ 2000) ∧ As (Kd.N k34 34 w' w.heap.size (fun k=>gr < k) v6 acc) ∧ As (∀ y ∈ acc,∃ k,r07_Key.f k y.f0 y.f1 y.f2 y.f3 y.f4 y.f5 = some (key y)) ∧ As (Below w.heap.size w w'))
 case atStart=>exact ⟨0,b1,[],rfl,Nat.zero_le _,⟨rfl⟩,⟨rfl⟩,⟨rfl⟩,HI,HO1,HL1,⟨Kd.N_nil _ _ _ _ _⟩,⟨fun y hy=>by cases hy⟩,HB⟩
 case round =>
  clear HI HB
  obtain ⟨x,b,acc,rfl,p1,HKQ,HAL,HPL,HI,HBO,HBL2,HO,HKA,HB⟩:=hrel
  by_cases hlt : (x : Int) < n
  case pos =>
   have c0_ : decide ((x : Int) < n) = true:=decide_eq_true hlt
   have c1_ : ((x : Int) < n) = True:=eq_true hlt
   have HX:=As.mk (show x < n.toNat ∧ n.toNat ≤ 500 from ⟨by omega,by have:=HN.out;omega⟩)
   have hw1 : wrap64 ((x : Int) + 1) = ((x + 1 : Nat) : Int):=by rw [IntWalk.wrap64_in _ (by have:=HX.out;omega)];omega
   have HBL:=As.mk (show b.length ≤ 100000 by have:=HBL2.out;omega)
   obtain ⟨m,hm⟩ : ∃ m,n.toNat - x = m + 1:=⟨n.toNat - x - 1,by omega⟩
   have hpl:=HPL.out
   rw [hm] at hpl
   have HMM:=As.mk hm
   obtain ⟨⟨kd,dc,ds,dv,dl,dt⟩,ed,b',e',hrd⟩ : ∃ d ed b' e',readR b 0 = (d,ed,b',e'):=⟨_,_,_,_,rfl⟩
   by_cases hed : ed = 0
   case neg=>as_aux_lemma =>
    have hpf:=hpl.trans (parseL_fell (key:=key) hrd hed)
    have HPR:=As.mk ((parseR_fell (key:=key) HQ.out (by have h_:=HN.out;omega) (by rw [hpf];exact hed)).trans (by rw [hpf]))
    have HRD:=As.mk hrd
    have z1 : (ed != 0) = true:=bne_iff_ne.mpr hed
    clear hpf hpl hm hrd hed hlt
    go_wp2_with (first | (go_at_call 101;(with_reducible refine (refread_calls gr b 0 HBO.out HBL.out w _ HI.out HB.out).mono ?_);rintro e_ w5 ⟨vv,rfl,hR5,hI1,hB1,hK1⟩;rw [HRD.out] at hI1 hR5;rw [HRD.out];dsimp only at hI1 hR5 ⊢;obtain ⟨A2,c2,rfl⟩:=Kd.R_slice hR5;have HR5:=As.mk hR5;have HO5:=As.mk (Kd.N_step HO.out (fun k ho_ hlt_=>hK1.2 k hlt_ (Nat.ne_of_gt ho_) (by simp)));have n0_:=As.mk hI1;have n1_:=As.mk hB1;clear HI HB hI1 hB1;have HI:=n0_;have HB:=n1_;clear n0_ n1_;clear hR5 hK1))
    refine bodyPost_ret (results_tmp2 rfl _ _ _) rfl ?_
    rw [HPR.out]
    exact ⟨none,0,rfl,Kd.V_nil _ _ _ _ _,(by repeat (first | (with_reducible first | exact HB.out | apply bA | apply bN | apply bD) | exact HB.out))⟩
   case pos =>
    subst hed
    obtain ⟨hbd,rfl⟩:=HINV.out b _ b' e' HBO.out hrd
    obtain ⟨⟨k,hk⟩,hks⟩:=HKEY.out b _ b' 0 HBO.out HBL2.out hrd
    have HBO2:=As.mk (show BytesOk b' from fun y hy=>HBO.out y (by rw [hbd];exact List.mem_append_right _ hy))
    have HBL3:=As.mk (show b'.length ≤ 2000 by have h1:=HBL2.out;have h2:=congrArg List.length hbd;rw [List.length_append] at h2;omega)
    have HKA2:=As.mk (show ∀ y ∈ acc ++ [(⟨kd,dc,ds,dv,dl,dt⟩ : S34)],∃ k,r07_Key.f k y.f0 y.f1 y.f2 y.f3 y.f4 y.f5 = some (key y) from fun y hy=>by
     rcases List.mem_append.1 hy with hy | hy
     ·exact HKA.out y hy
     ·rw [List.mem_singleton.1 hy]
      exact ⟨k,hk⟩)
    obtain ⟨ky,hky⟩ : ∃ ky,ky = key (⟨kd,dc,ds,dv,dl,dt⟩ : S34):=⟨_,rfl⟩
    have hk : r07_Key.f k kd dc ds dv dl dt = some ky:=by rw [hky];exact hk
    have HKY:=As.mk hk
    have HKPOS:=As.mk (show 0 < ky.size by rw [hky];exact hks)
    have HKD:=As.mk hky
    have HRD:=As.mk hrd
    have HPLN:=As.mk hpl
    clear hbd hk hks hky hrd hpl hm hlt
    obtain ⟨Bq,hBq⟩ : ∃ Bq,Bq = wr.heap.size:=⟨_,rfl⟩
    have HGB:=As.mk (show gr < Bq by rw [hBq];exact HI.out.lt)
    have HKP:=As.mk (show ∀ k,Bq ≤ k → gr < k ∧ some k ≠ u6.ownBlock from fun k hk=>⟨Nat.lt_of_lt_of_le HGB.out hk,fun e_=>by have:=Kd.N_lt HO.out k e_.symm;omega⟩)
    have HBW:=As.mk hBq
    clear hBq
    go_upto_region 12 with (first | (go_at_call 101;(with_reducible refine (refread_calls gr b 0 HBO.out HBL.out w _ HI.out HB.out).mono ?_);rintro e_ w5 ⟨vv,rfl,hR5,hI1,hB1,hK1⟩;rw [HRD.out] at hI1 hR5;rw [HRD.out];dsimp only at hI1 hR5 ⊢;obtain ⟨A2,c2,rfl⟩:=Kd.R_slice hR5;have HR5:=As.mk hR5;have HSZ5:=As.mk (show Bq ≤ w5.heap.size by rw [HBW.out];exact hK1.1);have HO5:=As.mk (Kd.N_step HO.out (fun k ho_ hlt_=>hK1.2 k hlt_ (Nat.ne_of_gt ho_) (by simp)));have n0_:=As.mk hI1;have n1_:=As.mk hB1;clear HI HB hI1 hB1;have HI:=n0_;have HB:=n1_;clear n0_ n1_;clear hR5 hK1))
    have bk_:=blk_new w5 (Obj.cells #[.int .i64 kd,.string dc,.string ds,.slice A2 dv.length c2,.string dl,.string dt] 34)
    have hb_:=bA (Below.refl w5.heap.size w5) (Obj.cells #[.int .i64 kd,.string dc,.string ds,.slice A2 dv.length c2,.string dl,.string dt] 34)
    have HL2:=As.mk (Kd.R_reads' HR5.out).2.1
    have HAD:=As.mk (show ∀ ad,A2 = some ad → Bq ≤ ad.block from fun ad e_=>by rw [HBW.out];exact HR5.out.1 _ (by rw [e_];rfl))
    have HC2:=As.mk (C_cells (Kd.R_reads' HR5.out).2.2 (.below hb_))
    have n0_:=As.mk (HI.out.below hb_)
    have n1_:=As.mk (HB.out.trans (hb_.mono HB.out.size))
    have n2_:=As.mk (Kd.N_below HO5.out hb_)
    have n3_:=As.mk (show Bq ≤ (w5.alloc (Obj.cells #[.int .i64 kd,.string dc,.string ds,.slice A2 dv.length c2,.string dl,.string dt] 34)).heap.size from Nat.le_trans HSZ5.out hb_.size)
    generalize w5.alloc (Obj.cells #[.int .i64 kd,.string dc,.string ds,.slice A2 dv.length c2,.string dl,.string dt] 34) = W6 at bk_ hb_ HC2 n0_ n1_ n2_ n3_ ⊢
    obtain ⟨gq,hgq⟩ : ∃ gq,gq = w5.heap.size:=⟨_,rfl⟩
    rw [← hgq] at bk_ ⊢
    clear hgq HI HB HO HO5 HR5 HSZ5 hb_
    have HI:=n0_
    have HB:=n1_
    have HO:=n2_
    have HSB:=n3_
    clear n0_ n1_ n2_ n3_
    have Q0:=As.mk (show W6.cell? ⟨gq,0,none⟩ = some (.int .i64 kd) from (bC bk_ 0).trans rfl)
    have Q1:=As.mk (show W6.cell? ⟨gq,1,none⟩ = some (.string dc) from (bC bk_ 1).trans rfl)
    have Q2:=As.mk (show W6.cell? ⟨gq,2,none⟩ = some (.string ds) from (bC bk_ 2).trans rfl)
    have Q3:=As.mk (show W6.cell? ⟨gq,3,none⟩ = some (.slice A2 dv.length c2) from (bC bk_ 3).trans rfl)
    have Q4:=As.mk (show W6.cell? ⟨gq,4,none⟩ = some (.string dl) from (bC bk_ 4).trans rfl)
    have Q5:=As.mk (show W6.cell? ⟨gq,5,none⟩ = some (.string dt) from (bC bk_ 5).trans rfl)
    clear bk_
    by_cases hx0 : x = 0
    case pos =>
     subst hx0
     obtain rfl : acc = []:=List.eq_nil_of_length_eq_zero HAL.out
     have hlk : ltK (lastA key []) (key (⟨kd,dc,ds,dv,dl,dt⟩ : S34)) = true:=by
      rw [← HKD.out]
      show bytesBefore ([] : List UInt8) ky.data.toList = true
      cases hl : ky.data.toList with
      | nil =>
       have h2 : ky.data.toList.length = 0:=by rw [hl];rfl
       rw [Array.length_toList] at h2
       have h3 : ky.size = 0:=h2
       have:=HKPOS.out
       omega
      | cons a l=>rfl
     have HNX:=As.mk (HPLN.out.trans (parseL_next (key:=key) HRD.out hlk))
     clear hlk
     go_upto_region 14 with (fail)
     refine start_ (n:=13) (S:=fun w'=>w'.cell? ⟨gq,0,none⟩ = some (.int .i64 kd) ∧ w'.cell? ⟨gq,1,none⟩ = some (.string dc) ∧ w'.cell? ⟨gq,2,none⟩ = some (.string ds) ∧ w'.cell? ⟨gq,3,none⟩ = some (.slice A2 dv.length c2) ∧ w'.cell? ⟨gq,4,none⟩ = some (.string dl) ∧ w'.cell? ⟨gq,5,none⟩ = some (.string dt)) (ds:=[]) #[false,false,false,false,false,false,false,false,false,false,false,false,false] (by kernel_rfl) rfl rfl ⟨(pC (bD (Below.refl _ W6)) Q0.out),(pC (bD (Below.refl _ W6)) Q1.out),(pC (bD (Below.refl _ W6)) Q2.out),(pC (bD (Below.refl _ W6)) Q3.out),(pC (bD (Below.refl _ W6)) Q4.out),(pC (bD (Below.refl _ W6)) Q5.out)⟩ (fun hHeld=>?_);refine with_tabW refparse.tab14 refparse.bits14 (fun HT_ HW_=>?_)
     have yD:=As.mk (bD (Below.refl W6.heap.size W6))
     have yI:=As.mk (HI.out.below yD.out)
     have yB:=As.mk (HB.out.trans (yD.out.mono HB.out.size))
     have yO:=As.mk (Kd.N_below HO.out yD.out)
     have yC:=As.mk (C_cells HC2.out (.below yD.out))
     have yS:=As.mk (Nat.le_trans HSB.out yD.out.size)
     have yQ0:=As.mk (pC yD.out Q0.out)
     have yQ1:=As.mk (pC yD.out Q1.out)
     have yQ2:=As.mk (pC yD.out Q2.out)
     have yQ3:=As.mk (pC yD.out Q3.out)
     have yQ4:=As.mk (pC yD.out Q4.out)
     have yQ5:=As.mk (pC yD.out Q5.out)
     clear HI HB HO HC2 HSB yD Q0 Q1 Q2 Q3 Q4 Q5
     generalize W6.drew = W7 at yI yB yO yC yS yQ0 yQ1 yQ2 yQ3 yQ4 yQ5 hHeld ⊢
     have HI:=yI
     have HB:=yB
     have HO:=yO
     have HC2:=yC
     have HSB:=yS
     have HBQ:=As.mk (Below.refl W7.heap.size W7)
     have Q0:=yQ0
     have Q1:=yQ1
     have Q2:=yQ2
     have Q3:=yQ3
     have Q4:=yQ4
     have Q5:=yQ5
     clear yI yB yO yC yS yQ0 yQ1 yQ2 yQ3 yQ4 yQ5
     refine pure_ (i:=0) (N:=some 39) (v:=?_) (a':=?_) #[true,false,false,false,false,false,false,false,false,false,false,false,false] rfl rfl (any_of HT_.out (by kernel_rfl)) (fun _ _ _ h=>h) (Or.inl ⟨by rfl,?_⟩) ?_ ?_
     rotate_left
     ·intro w'
      go_simp
      with_reducible rfl
     rotate_left
     ·simp only [Act.put,List.setIfInBounds_toArray,List.set_cons_zero,List.set_cons_succ,i64_w,i32_w]
      rfl
     refine pure_ (i:=1) (N:=some 40) (v:=?_) (a':=?_) #[true,true,false,false,false,false,false,false,false,false,false,false,false] rfl rfl (any_of HT_.out (by kernel_rfl)) (fun _ _ _ h=>h) (Or.inl ⟨by rfl,?_⟩) ?_ ?_
     rotate_left
     ·intro w'
      go_simp
      with_reducible rfl
     rotate_left
     ·simp only [Act.put,List.setIfInBounds_toArray,List.set_cons_zero,List.set_cons_succ,i64_w,i32_w]
      rfl
     refine pure_ (i:=2) (N:=some 41) (v:=?_) (a':=?_) #[true,true,true,false,false,false,false,false,false,false,false,false,false] rfl rfl (any_of HT_.out (by kernel_rfl)) (fun _ _ _ h=>h) (Or.inl ⟨by rfl,?_⟩) ?_ ?_
     rotate_left
     ·intro w'
      go_simp
      with_reducible rfl
     rotate_left
     ·simp only [Act.put,List.setIfInBounds_toArray,List.set_cons_zero,List.set_cons_succ,i64_w,i32_w]
      rfl
     refine take_ (i:=3) (N:=some 42) (v:=undef) (a':=?_) #[true,true,true,true,false,false,false,false,false,false,false,false,false] rfl rfl (take_ofW HT_.out HW_.out (by kernel_rfl)) (fun _ _ _ h=>h) (Or.inr ⟨by rfl,rfl⟩) hHeld ?_ ?_
     rotate_left
     ·simp only [Act.put,List.setIfInBounds_toArray,List.set_cons_zero,List.set_cons_succ,i64_w,i32_w]
      rfl
     refine pure_ (i:=5) (N:=some 44) (v:=undef) (a':=?_) #[true,true,true,true,false,true,false,false,false,false,false,false,false] rfl rfl (any_of HT_.out (by kernel_rfl)) (fun _ _ _ h=>h) (Or.inr ⟨by rfl,rfl⟩) ?_ ?_
     rotate_left
     ·simp only [Act.put,List.setIfInBounds_toArray,List.set_cons_zero,List.set_cons_succ,i64_w,i32_w]
      rfl
     refine pure_ (i:=6) (N:=some 45) (v:=undef) (a':=?_) #[true,true,true,true,false,true,true,false,false,false,false,false,false] rfl rfl (any_of HT_.out (by kernel_rfl)) (fun _ _ _ h=>h) (Or.inr ⟨by rfl,rfl⟩) ?_ ?_
     rotate_left
     ·simp only [Act.put,List.setIfInBounds_toArray,List.set_cons_zero,List.set_cons_succ,i64_w,i32_w]
      rfl
     refine pure_ (i:=7) (N:=some 46) (v:=undef) (a':=?_) #[true,true,true,true,false,true,true,true,false,false,false,false,false] rfl rfl (any_of HT_.out (by kernel_rfl)) (fun _ _ _ h=>h) (Or.inr ⟨by rfl,rfl⟩) ?_ ?_
     rotate_left
     ·simp only [Act.put,List.setIfInBounds_toArray,List.set_cons_zero,List.set_cons_succ,i64_w,i32_w]
      rfl
     refine pure_ (i:=8) (N:=some 47) (v:=undef) (a':=?_) #[true,true,true,true,false,true,true,true,true,false,false,false,false] rfl rfl (any_of HT_.out (by kernel_rfl)) (fun _ _ _ h=>h) (Or.inr ⟨by rfl,rfl⟩) ?_ ?_
     rotate_left
     ·simp only [Act.put,List.setIfInBounds_toArray,List.set_cons_zero,List.set_cons_succ,i64_w,i32_w]
      rfl
     refine take_ (i:=9) (N:=some 48) (v:=undef) (a':=?_) #[true,true,true,true,false,true,true,true,true,true,false,false,false] rfl rfl (take_ofW HT_.out HW_.out (by kernel_rfl)) (fun _ _ _ h=>h) (Or.inr ⟨by rfl,rfl⟩) hHeld ?_ ?_
     rotate_left
     ·simp only [Act.put,List.setIfInBounds_toArray,List.set_cons_zero,List.set_cons_succ,i64_w,i32_w]
      rfl
     refine one_ (i:=4) (N:=some 43) #[true,true,true,true,true,true,true,true,true,true,false,false,false] rfl rfl (one_of HT_.out (by kernel_rfl)) (by decide) (fun K hK=>?_)
     refine ite_no_ (by rfl) ?_
     refine hK.out _ _ ⟨(pC HBQ.out Q0.out),(pC HBQ.out Q1.out),(pC HBQ.out Q2.out),(pC HBQ.out Q3.out),(pC HBQ.out Q4.out),(pC HBQ.out Q5.out)⟩ (fun hHeld=>?_)
     clear hK K
     refine norm_ (a':=?_) ?_ ?_
     rotate_left
     ·show Act.put _ (some 43) _ = _
      simp only [Act.put,List.setIfInBounds_toArray,List.set_cons_zero,List.set_cons_succ,i64_w,i32_w]
      rfl
     refine one_ (i:=10) (N:=some 49) #[true,true,true,true,true,true,true,true,true,true,true,false,false] rfl rfl (one_of HT_.out (by kernel_rfl)) (by decide) (fun K hK=>?_)
     refine ite_no_ (by rfl) ?_
     refine hK.out _ _ ⟨(pC HBQ.out Q0.out),(pC HBQ.out Q1.out),(pC HBQ.out Q2.out),(pC HBQ.out Q3.out),(pC HBQ.out Q4.out),(pC HBQ.out Q5.out)⟩ (fun hHeld=>?_)
     clear hK K
     refine norm_ (a':=?_) ?_ ?_
     rotate_left
     ·show Act.put _ (some 49) _ = _
      simp only [Act.put,List.setIfInBounds_toArray,List.set_cons_zero,List.set_cons_succ,i64_w,i32_w]
      rfl
     refine pure_ (i:=11) (N:=some 50) (v:=undef) (a':=?_) #[true,true,true,true,true,true,true,true,true,true,true,true,false] rfl rfl (any_of HT_.out (by kernel_rfl)) (fun _ _ _ h=>h) (Or.inr ⟨by rfl,rfl⟩) ?_ ?_
     rotate_left
     ·simp only [Act.put,List.setIfInBounds_toArray,List.set_cons_zero,List.set_cons_succ,i64_w,i32_w]
      rfl
     refine pure_ (i:=12) (N:=some 51) (v:=?_) (a':=?_) #[true,true,true,true,true,true,true,true,true,true,true,true,true] rfl rfl (any_of HT_.out (by kernel_rfl)) (fun _ _ _ h=>h) (Or.inl ⟨by rfl,?_⟩) ?_ ?_
     rotate_left
     ·intro w'
      go_simp
      with_reducible rfl
     rotate_left
     ·simp only [Act.put,List.setIfInBounds_toArray,List.set_cons_zero,List.set_cons_succ,i64_w,i32_w]
      rfl
     refine done_ (done_of HT_.out (by kernel_rfl)) ?_
     have hqs : True:=trivial
     have hq_0:=pC HBQ.out Q0.out
     have hq_1:=pC HBQ.out Q1.out
     have hq_2:=pC HBQ.out Q2.out
     have hq_3:=pC HBQ.out Q3.out
     have hq_4:=pC HBQ.out Q4.out
     have hq_5:=pC HBQ.out Q5.out
     clear hqs hHeld
     go_wp2_with (first | ((with_reducible refine gB (b:=.append) (xs:=#[.tmp 52,.tmp 54]) rfl ?_);at_builtin;refine Kd.N_append k34 (w0:=w) w.heap.size rfl (.tmp 52) (.tmp 54) 22 34 (.agg #[.int .i64 0,.string ⟨#[]⟩,.string ⟨#[]⟩,.slice none 0 0,.string ⟨#[]⟩,.string ⟨#[]⟩]) 96 rfl Tryz.underlying22 infoD_ rfl (by decide) (by decide) u6 [] (⟨kd,dc,ds,dv,dl,dt⟩ : S34) [.int .i64 kd,.string dc,.string ds,.slice A2 dv.length c2,.string dl,.string dt] (fun k=>gr < k) (fun k=>Bq ≤ k) rfl rfl ?aP HKP.out ?aF ?aO ?aB ?aS ?aL ?_;(case aP=>exact FK_new (d:=(⟨kd,dc,ds,dv,dl,dt⟩ : S34)) (A2:=A2) (c2:=c2) (B:=Bq) HL2.out (C_cells HC2.out (.below (by repeat (first | (with_reducible first | exact HBQ.out | apply bA | apply bN | apply bD) | exact HBQ.out)))) HAD.out);(case aF=>exact fun k hk=>Nat.lt_of_lt_of_le HGB.out (Nat.le_trans HSB.out (Nat.le_trans ((by repeat (first | (with_reducible first | exact HBQ.out | apply bA | apply bN | apply bD) | exact HBQ.out)) : Below W7.heap.size W7 _).size hk)));(case aO=>exact Kd.N_below HO.out (by repeat (first | (with_reducible first | exact HBQ.out | apply bA | apply bN | apply bD) | exact HBQ.out)));(case aB=>exact HB.out.trans (((by repeat (first | (with_reducible first | exact HBQ.out | apply bA | apply bN | apply bD) | exact HBQ.out)) : Below W7.heap.size W7 _).mono HB.out.size));(case aS=>exact Nat.le_trans HB.out.size ((by repeat (first | (with_reducible first | exact HBQ.out | apply bA | apply bN | apply bD) | exact HBQ.out)) : Below W7.heap.size W7 _).size);(case aL=>have:=HX.out;show (0 + 1) * 96 ≤ _;omega);intro v9 w9 ho hb2_ hg_ hat_;have HON:=As.mk ho;have HBN:=As.mk hb2_;have HIN:=As.mk (RfR.grown (v:=u6) (HI.out.below (by repeat (first | (with_reducible first | exact HBQ.out | apply bA | apply bN | apply bD) | exact HBQ.out))) hg_ HO.out.1);clear ho hb2_ hg_ hat_))
     go_roundg (gk - 1)
     case measure=>have:=HKQ.out;have:=HX.out;omega
     case rel=>exact ⟨0 + 1,b',[] ++ [(⟨kd,dc,ds,dv,dl,dt⟩ : S34)],(by first | rfl | rw [hw1]),HX.out.1,⟨by have:=HKQ.out;have:=HX.out;omega⟩,⟨by rw [List.length_append,List.length_singleton,HAL.out]⟩,⟨by rw [show n.toNat - (0 + 1) = m by have:=HMM.out;omega];exact HNX.out⟩,HIN,HBO2,HBL3,HON,HKA2,HBN⟩
    case neg =>
     obtain ⟨x1,hx1⟩ : ∃ x1,x = x1 + 1:=⟨x - 1,by omega⟩
     have hxl : x1 < acc.length:=by rw [HAL.out];omega
     obtain ⟨ld,hld⟩ : ∃ ld,ld = acc[x1]:=⟨_,rfl⟩
     obtain ⟨k2,hk2⟩:=HKA.out ld (by rw [hld];exact List.getElem_mem hxl)
     obtain ⟨lk,hlk⟩ : ∃ lk,lk = lastA key acc:=⟨_,rfl⟩
     have hll : lastA key acc = key ld:=by
      unfold lastA
      rw [List.getLast?_eq_getElem?,HAL.out,show x - 1 = x1 by omega,List.getElem?_eq_getElem hxl,hld]
      rfl
     have HKL:=As.mk (show r07_Key.f k2 ld.f0 ld.f1 ld.f2 ld.f3 ld.f4 ld.f5 = some lk by rw [hk2,hlk,hll])
     have HLKD:=As.mk hlk
     obtain ⟨An,cn,hu6,hln_,hCn_⟩:=Kd.N_reads HO.out
     obtain ⟨al,A9,c9,e_,l0_,l1_,l2_,l3_,l4_,l5_,hl9_,hC9_⟩:=at_T34 hCn_ (x1 : Int) (by omega) (by omega)
     rw [rd_at acc x1 hxl,← hld] at l0_ l1_ l2_ l3_ l4_ l5_ hl9_ hC9_
     rw [Int.toNat_natCast] at l0_ l1_ l2_ l3_ l4_ l5_
     subst e_
     have HU6:=As.mk hu6
     have HL9:=As.mk hl9_
     have HC9:=As.mk hC9_
     have Q6:=As.mk l0_
     have Q7:=As.mk l1_
     have Q8:=As.mk l2_
     have Q9:=As.mk l3_
     have Q10:=As.mk l4_
     have Q11:=As.mk l5_
     have hx2_ : wrap64 ((x : Int) - 1) = (x1 : Int):=by rw [IntWalk.wrap64_in _ (by have:=HX.out;omega)];omega
     have hx3_ : decide ((0 : Int) < (x : Int)) = true:=decide_eq_true (by omega)
     have hx4_ : ((0 : Int) < (x : Int)) = True:=eq_true (by omega)
     have hx6_ : (0 < x) = True:=eq_true (by omega)
     have hx5_ : ((x1 : Int) < (acc.length : Int)) = True:=eq_true (by omega)
     have hx7_ : (x1 < acc.length) = True:=eq_true hxl
     have hx8_ : (0 ≤ (x1 : Int)) = True:=eq_true (by omega)
     clear hld hk2 hlk hll hln_ hCn_ l0_ l1_ l2_ l3_ l4_ l5_ hl9_ hC9_ hxl hx0 hu6 hx1
     cases hlt2 : ltK lk ky with
     | false=>as_aux_lemma =>
      have hlk2 : Op.bytesLess lk.toList ky.toList = false:=(ltK_less _ _).trans hlt2
      have hpf:=HPLN.out.trans (parseL_order (key:=key) HRD.out (by have h_:=hlt2;rw [HKD.out,HLKD.out] at h_;exact h_))
      have HPR:=As.mk ((parseR_fell (key:=key) HQ.out (by have h_:=HN.out;omega) (by rw [hpf];show ¬ (32 : Int) = 0;decide)).trans (by rw [hpf]))
      clear hpf hlt2
      obtain rfl:=HU6.out
      go_upto_region 14 with (fail)
      refine start_ (n:=13) (S:=fun w'=>w'.cell? ⟨gq,0,none⟩ = some (.int .i64 kd) ∧ w'.cell? ⟨gq,1,none⟩ = some (.string dc) ∧ w'.cell? ⟨gq,2,none⟩ = some (.string ds) ∧ w'.cell? ⟨gq,3,none⟩ = some (.slice A2 dv.length c2) ∧ w'.cell? ⟨gq,4,none⟩ = some (.string dl) ∧ w'.cell? ⟨gq,5,none⟩ = some (.string dt) ∧ w'.cell? (al.add (x1 * 6)) = some (.int .i64 ld.f0) ∧ w'.cell? ⟨(al.add (x1 * 6)).block,(al.add (x1 * 6)).off + 1,none⟩ = some (.string ld.f1) ∧ w'.cell? ⟨(al.add (x1 * 6)).block,(al.add (x1 * 6)).off + 2,none⟩ = some (.string ld.f2) ∧ w'.cell? ⟨(al.add (x1 * 6)).block,(al.add (x1 * 6)).off + 3,none⟩ = some (.slice A9 ld.f3.length c9) ∧ w'.cell? ⟨(al.add (x1 * 6)).block,(al.add (x1 * 6)).off + 4,none⟩ = some (.string ld.f4) ∧ w'.cell? ⟨(al.add (x1 * 6)).block,(al.add (x1 * 6)).off + 5,none⟩ = some (.string ld.f5)) (ds:=[]) #[false,false,false,false,false,false,false,false,false,false,false,false,false] (by kernel_rfl) rfl rfl ⟨(pC (bD (Below.refl _ W6)) Q0.out),(pC (bD (Below.refl _ W6)) Q1.out),(pC (bD (Below.refl _ W6)) Q2.out),(pC (bD (Below.refl _ W6)) Q3.out),(pC (bD (Below.refl _ W6)) Q4.out),(pC (bD (Below.refl _ W6)) Q5.out),(pC (bD (Below.refl _ W6)) Q6.out),(pC (bD (Below.refl _ W6)) Q7.out),(pC (bD (Below.refl _ W6)) Q8.out),(pC (bD (Below.refl _ W6)) Q9.out),(pC (bD (Below.refl _ W6)) Q10.out),(pC (bD (Below.refl _ W6)) Q11.out)⟩ (fun hHeld=>?_);refine with_tabW refparse.tab14 refparse.bits14 (fun HT_ HW_=>?_)
      have yD:=As.mk (bD (Below.refl W6.heap.size W6))
      have yI:=As.mk (HI.out.below yD.out)
      have yB:=As.mk (HB.out.trans (yD.out.mono HB.out.size))
      have yO:=As.mk (Kd.N_below HO.out yD.out)
      have yC:=As.mk (C_cells HC2.out (.below yD.out))
      have yS:=As.mk (Nat.le_trans HSB.out yD.out.size)
      have yL:=As.mk (C_cells HC9.out (.below yD.out))
      have yQ0:=As.mk (pC yD.out Q0.out)
      have yQ1:=As.mk (pC yD.out Q1.out)
      have yQ2:=As.mk (pC yD.out Q2.out)
      have yQ3:=As.mk (pC yD.out Q3.out)
      have yQ4:=As.mk (pC yD.out Q4.out)
      have yQ5:=As.mk (pC yD.out Q5.out)
      have yQ6:=As.mk (pC yD.out Q6.out)
      have yQ7:=As.mk (pC yD.out Q7.out)
      have yQ8:=As.mk (pC yD.out Q8.out)
      have yQ9:=As.mk (pC yD.out Q9.out)
      have yQ10:=As.mk (pC yD.out Q10.out)
      have yQ11:=As.mk (pC yD.out Q11.out)
      clear HI HB HO HC2 HSB yD HC9 Q0 Q1 Q2 Q3 Q4 Q5 Q6 Q7 Q8 Q9 Q10 Q11
      generalize W6.drew = W7 at yI yB yO yC yS yL yQ0 yQ1 yQ2 yQ3 yQ4 yQ5 yQ6 yQ7 yQ8 yQ9 yQ10 yQ11 hHeld ⊢
      have HI:=yI
      have HB:=yB
      have HO:=yO
      have HC2:=yC
      have HSB:=yS
      have HBQ:=As.mk (Below.refl W7.heap.size W7)
      have HC9:=yL
      have Q0:=yQ0
      have Q1:=yQ1
      have Q2:=yQ2
      have Q3:=yQ3
      have Q4:=yQ4
      have Q5:=yQ5
      have Q6:=yQ6
      have Q7:=yQ7
      have Q8:=yQ8
      have Q9:=yQ9
      have Q10:=yQ10
      have Q11:=yQ11
      clear yI yB yO yC yS yL yQ0 yQ1 yQ2 yQ3 yQ4 yQ5 yQ6 yQ7 yQ8 yQ9 yQ10 yQ11
      refine pure_ (i:=0) (N:=some 39) (v:=?_) (a':=?_) #[true,false,false,false,false,false,false,false,false,false,false,false,false] rfl rfl (any_of HT_.out (by kernel_rfl)) (fun _ _ _ h=>h) (Or.inl ⟨by rfl,?_⟩) ?_ ?_
      rotate_left
      ·intro w'
       go_simp
       with_reducible rfl
      rotate_left
      ·simp only [Act.put,List.setIfInBounds_toArray,List.set_cons_zero,List.set_cons_succ,i64_w,i32_w]
       rfl
      refine pure_ (i:=1) (N:=some 40) (v:=?_) (a':=?_) #[true,true,false,false,false,false,false,false,false,false,false,false,false] rfl rfl (any_of HT_.out (by kernel_rfl)) (fun _ _ _ h=>h) (Or.inl ⟨by rfl,?_⟩) ?_ ?_
      rotate_left
      ·intro w'
       go_simp
       with_reducible rfl
      rotate_left
      ·simp only [Act.put,List.setIfInBounds_toArray,List.set_cons_zero,List.set_cons_succ,i64_w,i32_w]
       rfl
      refine pure_ (i:=2) (N:=some 41) (v:=?_) (a':=?_) #[true,true,true,false,false,false,false,false,false,false,false,false,false] rfl rfl (any_of HT_.out (by kernel_rfl)) (fun _ _ _ h=>h) (Or.inl ⟨by rfl,?_⟩) ?_ ?_
      rotate_left
      ·intro w'
       go_simp
       with_reducible rfl
      rotate_left
      ·simp only [Act.put,List.setIfInBounds_toArray,List.set_cons_zero,List.set_cons_succ,i64_w,i32_w]
       rfl
      refine take_ (i:=3) (N:=some 42) (v:=?_) (a':=?_) #[true,true,true,true,false,false,false,false,false,false,false,false,false] rfl rfl (take_ofW HT_.out HW_.out (by kernel_rfl)) (fun _ _ _ h=>h) (Or.inl ⟨by rfl,?_⟩) hHeld ?_ ?_
      rotate_left
      ·rintro w' ⟨s0,s1,s2,s3,s4,s5,s6,s7,s8,s9,s10,s11⟩
       go_simp
       with_reducible rfl
      rotate_left
      ·simp only [Act.put,List.setIfInBounds_toArray,List.set_cons_zero,List.set_cons_succ,i64_w,i32_w]
       rfl
      refine pure_ (i:=5) (N:=some 44) (v:=?_) (a':=?_) #[true,true,true,true,false,true,false,false,false,false,false,false,false] rfl rfl (any_of HT_.out (by kernel_rfl)) (fun _ _ _ h=>h) (Or.inl ⟨by rfl,?_⟩) ?_ ?_
      rotate_left
      ·intro w'
       go_simp
       with_reducible rfl
      rotate_left
      ·simp only [Act.put,List.setIfInBounds_toArray,List.set_cons_zero,List.set_cons_succ,i64_w,i32_w]
       rfl
      refine pure_ (i:=6) (N:=some 45) (v:=?_) (a':=?_) #[true,true,true,true,false,true,true,false,false,false,false,false,false] rfl rfl (any_of HT_.out (by kernel_rfl)) (fun _ _ _ h=>h) (Or.inl ⟨by rfl,?_⟩) ?_ ?_
      rotate_left
      ·intro w'
       go_simp
       with_reducible rfl
      rotate_left
      ·simp only [Act.put,List.setIfInBounds_toArray,List.set_cons_zero,List.set_cons_succ,i64_w,i32_w]
       rfl
      refine pure_ (i:=7) (N:=some 46) (v:=?_) (a':=?_) #[true,true,true,true,false,true,true,true,false,false,false,false,false] rfl rfl (any_of HT_.out (by kernel_rfl)) (fun _ _ _ h=>h) (Or.inl ⟨by rfl,?_⟩) ?_ ?_
      rotate_left
      ·intro w'
       go_simp
       with_reducible rfl
      rotate_left
      ·simp only [Act.put,List.setIfInBounds_toArray,List.set_cons_zero,List.set_cons_succ,i64_w,i32_w]
       rfl
      refine pure_ (i:=8) (N:=some 47) (v:=?_) (a':=?_) #[true,true,true,true,false,true,true,true,true,false,false,false,false] rfl rfl (any_of HT_.out (by kernel_rfl)) (fun _ _ _ h=>h) (Or.inl ⟨by rfl,?_⟩) ?_ ?_
      rotate_left
      ·intro w'
       go_simp
       with_reducible rfl
      rotate_left
      ·simp only [Act.put,List.setIfInBounds_toArray,List.set_cons_zero,List.set_cons_succ,i64_w,i32_w]
       rfl
      refine take_ (i:=9) (N:=some 48) (v:=?_) (a':=?_) #[true,true,true,true,false,true,true,true,true,true,false,false,false] rfl rfl (take_ofW HT_.out HW_.out (by kernel_rfl)) (fun _ _ _ h=>h) (Or.inl ⟨by rfl,?_⟩) hHeld ?_ ?_
      rotate_left
      ·rintro w' ⟨s0,s1,s2,s3,s4,s5,s6,s7,s8,s9,s10,s11⟩
       go_simp
       with_reducible rfl
      rotate_left
      ·simp only [Act.put,List.setIfInBounds_toArray,List.set_cons_zero,List.set_cons_succ,i64_w,i32_w]
       rfl
      refine one_ (i:=4) (N:=some 43) #[true,true,true,true,true,true,true,true,true,true,false,false,false] rfl rfl (one_of HT_.out (by kernel_rfl)) (by decide) (fun K hK=>?_)
      refine goes_ Tryz.func62 (by kernel_rfl) rfl #[.agg #[.int .i64 kd,.string dc,.string ds,.slice A2 dv.length c2,.string dl,.string dt]] (by rfl) rfl rfl (by (try simp only [List.map_toArray,List.map_cons,List.map_nil]);first | done | rfl | (simp only [List.length_drop,List.length_take];rfl)) ?_
      with_reducible refine (r07_Key.calls k kd dc ds A2 c2 dv dl dt ky _ (C_cells HC2.out (.below HBQ.out)) HL2.out HKY.out).mono ?_
      rintro er w8 ⟨rfl,hb_⟩
      have n0_:=As.mk (bS HBQ.out hb_)
      clear HBQ hb_
      have HBQ:=n0_
      clear n0_
      refine ⟨_,rfl,?_⟩
      refine hK.out _ _ ⟨(pC HBQ.out Q0.out),(pC HBQ.out Q1.out),(pC HBQ.out Q2.out),(pC HBQ.out Q3.out),(pC HBQ.out Q4.out),(pC HBQ.out Q5.out),(pC HBQ.out Q6.out),(pC HBQ.out Q7.out),(pC HBQ.out Q8.out),(pC HBQ.out Q9.out),(pC HBQ.out Q10.out),(pC HBQ.out Q11.out)⟩ (fun hHeld=>?_)
      clear hK K
      refine norm_ (a':=?_) ?_ ?_
      rotate_left
      ·show Act.put _ (some 43) _ = _
       simp only [Act.put,List.setIfInBounds_toArray,List.set_cons_zero,List.set_cons_succ,i64_w,i32_w]
       rfl
      refine one_ (i:=10) (N:=some 49) #[true,true,true,true,true,true,true,true,true,true,true,false,false] rfl rfl (one_of HT_.out (by kernel_rfl)) (by decide) (fun K hK=>?_)
      refine goes_ Tryz.func62 (by kernel_rfl) rfl #[.agg #[.int .i64 ld.f0,.string ld.f1,.string ld.f2,.slice A9 ld.f3.length c9,.string ld.f4,.string ld.f5]] (by rfl) rfl rfl (by (try simp only [List.map_toArray,List.map_cons,List.map_nil]);first | done | rfl | (simp only [List.length_drop,List.length_take];rfl)) ?_
      with_reducible refine (r07_Key.calls k2 ld.f0 ld.f1 ld.f2 A9 c9 ld.f3 ld.f4 ld.f5 lk _ (C_cells HC9.out (.below HBQ.out)) HL9.out HKL.out).mono ?_
      rintro er w9 ⟨rfl,hb_⟩
      have n0_:=As.mk (bS HBQ.out hb_)
      clear HBQ hb_
      have HBQ:=n0_
      clear n0_
      refine ⟨_,rfl,?_⟩
      refine hK.out _ _ ⟨(pC HBQ.out Q0.out),(pC HBQ.out Q1.out),(pC HBQ.out Q2.out),(pC HBQ.out Q3.out),(pC HBQ.out Q4.out),(pC HBQ.out Q5.out),(pC HBQ.out Q6.out),(pC HBQ.out Q7.out),(pC HBQ.out Q8.out),(pC HBQ.out Q9.out),(pC HBQ.out Q10.out),(pC HBQ.out Q11.out)⟩ (fun hHeld=>?_)
      clear hK K
      refine norm_ (a':=?_) ?_ ?_
      rotate_left
      ·show Act.put _ (some 49) _ = _
       simp only [Act.put,List.setIfInBounds_toArray,List.set_cons_zero,List.set_cons_succ,i64_w,i32_w]
       rfl
      refine pure_ (i:=11) (N:=some 50) (v:=?_) (a':=?_) #[true,true,true,true,true,true,true,true,true,true,true,true,false] rfl rfl (any_of HT_.out (by kernel_rfl)) (fun _ _ _ h=>h) (Or.inl ⟨by rfl,?_⟩) ?_ ?_
      rotate_left
      ·intro w'
       go_simp
       with_reducible rfl
      rotate_left
      ·simp only [Act.put,List.setIfInBounds_toArray,List.set_cons_zero,List.set_cons_succ,i64_w,i32_w]
       rfl
      refine pure_ (i:=12) (N:=some 51) (v:=?_) (a':=?_) #[true,true,true,true,true,true,true,true,true,true,true,true,true] rfl rfl (any_of HT_.out (by kernel_rfl)) (fun _ _ _ h=>h) (Or.inl ⟨by rfl,?_⟩) ?_ ?_
      rotate_left
      ·intro w'
       go_simp
       with_reducible rfl
      rotate_left
      ·simp only [Act.put,List.setIfInBounds_toArray,List.set_cons_zero,List.set_cons_succ,i64_w,i32_w]
       rfl
      refine done_ (done_of HT_.out (by kernel_rfl)) ?_
      go_wp2_with (fail)
      refine bodyPost_ret (results_tmp2 rfl _ _ _) rfl ?_
      rw [HPR.out]
      exact ⟨none,0,rfl,Kd.V_nil _ _ _ _ _,HB.out.trans (HBQ.out.mono HB.out.size)⟩
     | true =>
      have hlk2 : Op.bytesLess lk.toList ky.toList = true:=(ltK_less _ _).trans hlt2
      have HNX:=As.mk (HPLN.out.trans (parseL_next (key:=key) HRD.out (by have h_:=hlt2;rw [HKD.out,HLKD.out] at h_;exact h_)))
      clear hlt2
      obtain rfl:=HU6.out
      go_upto_region 14 with (fail)
      refine start_ (n:=13) (S:=fun w'=>w'.cell? ⟨gq,0,none⟩ = some (.int .i64 kd) ∧ w'.cell? ⟨gq,1,none⟩ = some (.string dc) ∧ w'.cell? ⟨gq,2,none⟩ = some (.string ds) ∧ w'.cell? ⟨gq,3,none⟩ = some (.slice A2 dv.length c2) ∧ w'.cell? ⟨gq,4,none⟩ = some (.string dl) ∧ w'.cell? ⟨gq,5,none⟩ = some (.string dt) ∧ w'.cell? (al.add (x1 * 6)) = some (.int .i64 ld.f0) ∧ w'.cell? ⟨(al.add (x1 * 6)).block,(al.add (x1 * 6)).off + 1,none⟩ = some (.string ld.f1) ∧ w'.cell? ⟨(al.add (x1 * 6)).block,(al.add (x1 * 6)).off + 2,none⟩ = some (.string ld.f2) ∧ w'.cell? ⟨(al.add (x1 * 6)).block,(al.add (x1 * 6)).off + 3,none⟩ = some (.slice A9 ld.f3.length c9) ∧ w'.cell? ⟨(al.add (x1 * 6)).block,(al.add (x1 * 6)).off + 4,none⟩ = some (.string ld.f4) ∧ w'.cell? ⟨(al.add (x1 * 6)).block,(al.add (x1 * 6)).off + 5,none⟩ = some (.string ld.f5)) (ds:=[]) #[false,false,false,false,false,false,false,false,false,false,false,false,false] (by kernel_rfl) rfl rfl ⟨(pC (bD (Below.refl _ W6)) Q0.out),(pC (bD (Below.refl _ W6)) Q1.out),(pC (bD (Below.refl _ W6)) Q2.out),(pC (bD (Below.refl _ W6)) Q3.out),(pC (bD (Below.refl _ W6)) Q4.out),(pC (bD (Below.refl _ W6)) Q5.out),(pC (bD (Below.refl _ W6)) Q6.out),(pC (bD (Below.refl _ W6)) Q7.out),(pC (bD (Below.refl _ W6)) Q8.out),(pC (bD (Below.refl _ W6)) Q9.out),(pC (bD (Below.refl _ W6)) Q10.out),(pC (bD (Below.refl _ W6)) Q11.out)⟩ (fun hHeld=>?_);refine with_tabW refparse.tab14 refparse.bits14 (fun HT_ HW_=>?_)
      have yD:=As.mk (bD (Below.refl W6.heap.size W6))
      have yI:=As.mk (HI.out.below yD.out)
      have yB:=As.mk (HB.out.trans (yD.out.mono HB.out.size))
      have yO:=As.mk (Kd.N_below HO.out yD.out)
      have yC:=As.mk (C_cells HC2.out (.below yD.out))
      have yS:=As.mk (Nat.le_trans HSB.out yD.out.size)
      have yL:=As.mk (C_cells HC9.out (.below yD.out))
      have yQ0:=As.mk (pC yD.out Q0.out)
      have yQ1:=As.mk (pC yD.out Q1.out)
      have yQ2:=As.mk (pC yD.out Q2.out)
      have yQ3:=As.mk (pC yD.out Q3.out)
      have yQ4:=As.mk (pC yD.out Q4.out)
      have yQ5:=As.mk (pC yD.out Q5.out)
      have yQ6:=As.mk (pC yD.out Q6.out)
      have yQ7:=As.mk (pC yD.out Q7.out)
      have yQ8:=As.mk (pC yD.out Q8.out)
      have yQ9:=As.mk (pC yD.out Q9.out)
      have yQ10:=As.mk (pC yD.out Q10.out)
      have yQ11:=As.mk (pC yD.out Q11.out)
      clear HI HB HO HC2 HSB yD HC9 Q0 Q1 Q2 Q3 Q4 Q5 Q6 Q7 Q8 Q9 Q10 Q11
      generalize W6.drew = W7 at yI yB yO yC yS yL yQ0 yQ1 yQ2 yQ3 yQ4 yQ5 yQ6 yQ7 yQ8 yQ9 yQ10 yQ11 hHeld ⊢
      have HI:=yI
      have HB:=yB
      have HO:=yO
      have HC2:=yC
      have HSB:=yS
      have HBQ:=As.mk (Below.refl W7.heap.size W7)
      have HC9:=yL
      have Q0:=yQ0
      have Q1:=yQ1
      have Q2:=yQ2
      have Q3:=yQ3
      have Q4:=yQ4
      have Q5:=yQ5
      have Q6:=yQ6
      have Q7:=yQ7
      have Q8:=yQ8
      have Q9:=yQ9
      have Q10:=yQ10
      have Q11:=yQ11
      clear yI yB yO yC yS yL yQ0 yQ1 yQ2 yQ3 yQ4 yQ5 yQ6 yQ7 yQ8 yQ9 yQ10 yQ11
      refine pure_ (i:=0) (N:=some 39) (v:=?_) (a':=?_) #[true,false,false,false,false,false,false,false,false,false,false,false,false] rfl rfl (any_of HT_.out (by kernel_rfl)) (fun _ _ _ h=>h) (Or.inl ⟨by rfl,?_⟩) ?_ ?_
      rotate_left
      ·intro w'
       go_simp
       with_reducible rfl
      rotate_left
      ·simp only [Act.put,List.setIfInBounds_toArray,List.set_cons_zero,List.set_cons_succ,i64_w,i32_w]
       rfl
      refine pure_ (i:=1) (N:=some 40) (v:=?_) (a':=?_) #[true,true,false,false,false,false,false,false,false,false,false,false,false] rfl rfl (any_of HT_.out (by kernel_rfl)) (fun _ _ _ h=>h) (Or.inl ⟨by rfl,?_⟩) ?_ ?_
      rotate_left
      ·intro w'
       go_simp
       with_reducible rfl
      rotate_left
      ·simp only [Act.put,List.setIfInBounds_toArray,List.set_cons_zero,List.set_cons_succ,i64_w,i32_w]
       rfl
      refine pure_ (i:=2) (N:=some 41) (v:=?_) (a':=?_) #[true,true,true,false,false,false,false,false,false,false,false,false,false] rfl rfl (any_of HT_.out (by kernel_rfl)) (fun _ _ _ h=>h) (Or.inl ⟨by rfl,?_⟩) ?_ ?_
      rotate_left
      ·intro w'
       go_simp
       with_reducible rfl
      rotate_left
      ·simp only [Act.put,List.setIfInBounds_toArray,List.set_cons_zero,List.set_cons_succ,i64_w,i32_w]
       rfl
      refine take_ (i:=3) (N:=some 42) (v:=?_) (a':=?_) #[true,true,true,true,false,false,false,false,false,false,false,false,false] rfl rfl (take_ofW HT_.out HW_.out (by kernel_rfl)) (fun _ _ _ h=>h) (Or.inl ⟨by rfl,?_⟩) hHeld ?_ ?_
      rotate_left
      ·rintro w' ⟨s0,s1,s2,s3,s4,s5,s6,s7,s8,s9,s10,s11⟩
       go_simp
       with_reducible rfl
      rotate_left
      ·simp only [Act.put,List.setIfInBounds_toArray,List.set_cons_zero,List.set_cons_succ,i64_w,i32_w]
       rfl
      refine pure_ (i:=5) (N:=some 44) (v:=?_) (a':=?_) #[true,true,true,true,false,true,false,false,false,false,false,false,false] rfl rfl (any_of HT_.out (by kernel_rfl)) (fun _ _ _ h=>h) (Or.inl ⟨by rfl,?_⟩) ?_ ?_
      rotate_left
      ·intro w'
       go_simp
       with_reducible rfl
      rotate_left
      ·simp only [Act.put,List.setIfInBounds_toArray,List.set_cons_zero,List.set_cons_succ,i64_w,i32_w]
       rfl
      refine pure_ (i:=6) (N:=some 45) (v:=?_) (a':=?_) #[true,true,true,true,false,true,true,false,false,false,false,false,false] rfl rfl (any_of HT_.out (by kernel_rfl)) (fun _ _ _ h=>h) (Or.inl ⟨by rfl,?_⟩) ?_ ?_
      rotate_left
      ·intro w'
       go_simp
       with_reducible rfl
      rotate_left
      ·simp only [Act.put,List.setIfInBounds_toArray,List.set_cons_zero,List.set_cons_succ,i64_w,i32_w]
       rfl
      refine pure_ (i:=7) (N:=some 46) (v:=?_) (a':=?_) #[true,true,true,true,false,true,true,true,false,false,false,false,false] rfl rfl (any_of HT_.out (by kernel_rfl)) (fun _ _ _ h=>h) (Or.inl ⟨by rfl,?_⟩) ?_ ?_
      rotate_left
      ·intro w'
       go_simp
       with_reducible rfl
      rotate_left
      ·simp only [Act.put,List.setIfInBounds_toArray,List.set_cons_zero,List.set_cons_succ,i64_w,i32_w]
       rfl
      refine pure_ (i:=8) (N:=some 47) (v:=?_) (a':=?_) #[true,true,true,true,false,true,true,true,true,false,false,false,false] rfl rfl (any_of HT_.out (by kernel_rfl)) (fun _ _ _ h=>h) (Or.inl ⟨by rfl,?_⟩) ?_ ?_
      rotate_left
      ·intro w'
       go_simp
       with_reducible rfl
      rotate_left
      ·simp only [Act.put,List.setIfInBounds_toArray,List.set_cons_zero,List.set_cons_succ,i64_w,i32_w]
       rfl
      refine take_ (i:=9) (N:=some 48) (v:=?_) (a':=?_) #[true,true,true,true,false,true,true,true,true,true,false,false,false] rfl rfl (take_ofW HT_.out HW_.out (by kernel_rfl)) (fun _ _ _ h=>h) (Or.inl ⟨by rfl,?_⟩) hHeld ?_ ?_
      rotate_left
      ·rintro w' ⟨s0,s1,s2,s3,s4,s5,s6,s7,s8,s9,s10,s11⟩
       go_simp
       with_reducible rfl
      rotate_left
      ·simp only [Act.put,List.setIfInBounds_toArray,List.set_cons_zero,List.set_cons_succ,i64_w,i32_w]
       rfl
      refine one_ (i:=4) (N:=some 43) #[true,true,true,true,true,true,true,true,true,true,false,false,false] rfl rfl (one_of HT_.out (by kernel_rfl)) (by decide) (fun K hK=>?_)
      refine goes_ Tryz.func62 (by kernel_rfl) rfl #[.agg #[.int .i64 kd,.string dc,.string ds,.slice A2 dv.length c2,.string dl,.string dt]] (by rfl) rfl rfl (by (try simp only [List.map_toArray,List.map_cons,List.map_nil]);first | done | rfl | (simp only [List.length_drop,List.length_take];rfl)) ?_
      with_reducible refine (r07_Key.calls k kd dc ds A2 c2 dv dl dt ky _ (C_cells HC2.out (.below HBQ.out)) HL2.out HKY.out).mono ?_
      rintro er w8 ⟨rfl,hb_⟩
      have n0_:=As.mk (bS HBQ.out hb_)
      clear HBQ hb_
      have HBQ:=n0_
      clear n0_
      refine ⟨_,rfl,?_⟩
      refine hK.out _ _ ⟨(pC HBQ.out Q0.out),(pC HBQ.out Q1.out),(pC HBQ.out Q2.out),(pC HBQ.out Q3.out),(pC HBQ.out Q4.out),(pC HBQ.out Q5.out),(pC HBQ.out Q6.out),(pC HBQ.out Q7.out),(pC HBQ.out Q8.out),(pC HBQ.out Q9.out),(pC HBQ.out Q10.out),(pC HBQ.out Q11.out)⟩ (fun hHeld=>?_)
      clear hK K
      refine norm_ (a':=?_) ?_ ?_
      rotate_left
      ·show Act.put _ (some 43) _ = _
       simp only [Act.put,List.setIfInBounds_toArray,List.set_cons_zero,List.set_cons_succ,i64_w,i32_w]
       rfl
      refine one_ (i:=10) (N:=some 49) #[true,true,true,true,true,true,true,true,true,true,true,false,false] rfl rfl (one_of HT_.out (by kernel_rfl)) (by decide) (fun K hK=>?_)
      refine goes_ Tryz.func62 (by kernel_rfl) rfl #[.agg #[.int .i64 ld.f0,.string ld.f1,.string ld.f2,.slice A9 ld.f3.length c9,.string ld.f4,.string ld.f5]] (by rfl) rfl rfl (by (try simp only [List.map_toArray,List.map_cons,List.map_nil]);first | done | rfl | (simp only [List.length_drop,List.length_take];rfl)) ?_
      with_reducible refine (r07_Key.calls k2 ld.f0 ld.f1 ld.f2 A9 c9 ld.f3 ld.f4 ld.f5 lk _ (C_cells HC9.out (.below HBQ.out)) HL9.out HKL.out).mono ?_
      rintro er w9 ⟨rfl,hb_⟩
      have n0_:=As.mk (bS HBQ.out hb_)
      clear HBQ hb_
      have HBQ:=n0_
      clear n0_
      refine ⟨_,rfl,?_⟩
      refine hK.out _ _ ⟨(pC HBQ.out Q0.out),(pC HBQ.out Q1.out),(pC HBQ.out Q2.out),(pC HBQ.out Q3.out),(pC HBQ.out Q4.out),(pC HBQ.out Q5.out),(pC HBQ.out Q6.out),(pC HBQ.out Q7.out),(pC HBQ.out Q8.out),(pC HBQ.out Q9.out),(pC HBQ.out Q10.out),(pC HBQ.out Q11.out)⟩ (fun hHeld=>?_)
      clear hK K
      refine norm_ (a':=?_) ?_ ?_
      rotate_left
      ·show Act.put _ (some 49) _ = _
       simp only [Act.put,List.setIfInBounds_toArray,List.set_cons_zero,List.set_cons_succ,i64_w,i32_w]
       rfl
      refine pure_ (i:=11) (N:=some 50) (v:=?_) (a':=?_) #[true,true,true,true,true,true,true,true,true,true,true,true,false] rfl rfl (any_of HT_.out (by kernel_rfl)) (fun _ _ _ h=>h) (Or.inl ⟨by rfl,?_⟩) ?_ ?_
      rotate_left
      ·intro w'
       go_simp
       with_reducible rfl
      rotate_left
      ·simp only [Act.put,List.setIfInBounds_toArray,List.set_cons_zero,List.set_cons_succ,i64_w,i32_w]
       rfl
      refine pure_ (i:=12) (N:=some 51) (v:=?_) (a':=?_) #[true,true,true,true,true,true,true,true,true,true,true,true,true] rfl rfl (any_of HT_.out (by kernel_rfl)) (fun _ _ _ h=>h) (Or.inl ⟨by rfl,?_⟩) ?_ ?_
      rotate_left
      ·intro w'
       go_simp
       with_reducible rfl
      rotate_left
      ·simp only [Act.put,List.setIfInBounds_toArray,List.set_cons_zero,List.set_cons_succ,i64_w,i32_w]
       rfl
      refine done_ (done_of HT_.out (by kernel_rfl)) ?_
      have hqs : True:=trivial
      have hq_0:=pC HBQ.out Q0.out
      have hq_1:=pC HBQ.out Q1.out
      have hq_2:=pC HBQ.out Q2.out
      have hq_3:=pC HBQ.out Q3.out
      have hq_4:=pC HBQ.out Q4.out
      have hq_5:=pC HBQ.out Q5.out
      clear hqs hHeld
      go_wp2_with (first | ((with_reducible refine gB (b:=.append) (xs:=#[.tmp 52,.tmp 54]) rfl ?_);at_builtin;refine Kd.N_append k34 (w0:=w) w.heap.size rfl (.tmp 52) (.tmp 54) 22 34 (.agg #[.int .i64 0,.string ⟨#[]⟩,.string ⟨#[]⟩,.slice none 0 0,.string ⟨#[]⟩,.string ⟨#[]⟩]) 96 rfl Tryz.underlying22 infoD_ rfl (by decide) (by decide) (.slice (some al) acc.length cn) acc (⟨kd,dc,ds,dv,dl,dt⟩ : S34) [.int .i64 kd,.string dc,.string ds,.slice A2 dv.length c2,.string dl,.string dt] (fun k=>gr < k) (fun k=>Bq ≤ k) rfl rfl ?aP HKP.out ?aF ?aO ?aB ?aS ?aL ?_;(case aP=>exact FK_new (d:=(⟨kd,dc,ds,dv,dl,dt⟩ : S34)) (A2:=A2) (c2:=c2) (B:=Bq) HL2.out (C_cells HC2.out (.below (by repeat (first | (with_reducible first | exact HBQ.out | apply bA | apply bN | apply bD) | exact HBQ.out)))) HAD.out);(case aF=>exact fun k hk=>Nat.lt_of_lt_of_le HGB.out (Nat.le_trans HSB.out (Nat.le_trans ((by repeat (first | (with_reducible first | exact HBQ.out | apply bA | apply bN | apply bD) | exact HBQ.out)) : Below W7.heap.size W7 _).size hk)));(case aO=>exact Kd.N_below HO.out (by repeat (first | (with_reducible first | exact HBQ.out | apply bA | apply bN | apply bD) | exact HBQ.out)));(case aB=>exact HB.out.trans (((by repeat (first | (with_reducible first | exact HBQ.out | apply bA | apply bN | apply bD) | exact HBQ.out)) : Below W7.heap.size W7 _).mono HB.out.size));(case aS=>exact Nat.le_trans HB.out.size ((by repeat (first | (with_reducible first | exact HBQ.out | apply bA | apply bN | apply bD) | exact HBQ.out)) : Below W7.heap.size W7 _).size);(case aL=>have:=HAL.out;have:=HX.out;omega);intro v9 w9 ho hb2_ hg_ hat_;have HON:=As.mk ho;have HBN:=As.mk hb2_;have HIN:=As.mk (RfR.grown (v:=.slice (some al) acc.length cn) (HI.out.below (by repeat (first | (with_reducible first | exact HBQ.out | apply bA | apply bN | apply bD) | exact HBQ.out))) hg_ HO.out.1);clear ho hb2_ hg_ hat_))
      go_roundg (gk - 1)
      case measure=>have:=HKQ.out;have:=HX.out;omega
      case rel=>exact ⟨x + 1,b',acc ++ [(⟨kd,dc,ds,dv,dl,dt⟩ : S34)],(by first | rfl | rw [hw1]),HX.out.1,⟨by have:=HKQ.out;have:=HX.out;omega⟩,⟨by rw [List.length_append,List.length_singleton,HAL.out]⟩,⟨by rw [show n.toNat - (x + 1) = m by have:=HMM.out;omega];exact HNX.out⟩,HIN,HBO2,HBL3,HON,HKA2,HBN⟩
  case neg =>
   have c0_ : decide ((x : Int) < n) = false:=decide_eq_false hlt
   have c1_ : ((x : Int) < n) = False:=eq_false hlt
   have hpl:=HPL.out
   rw [show n.toNat - x = 0 by omega] at hpl
   have hpl : parseL key n.toNat b1 [] = (acc,0,b):=hpl
   have hczr_0 : wr.cell? ⟨gr,0,none⟩ = some (.string (strOfNums b)):=(bC HI.out.1 0).trans rfl
   obtain ⟨An,cn,rfl,hV_⟩:=VT (base':=0) HO.out
   have HVV:=As.mk hV_
   clear hV_
   by_cases hb : b = []
   case pos=>as_aux_lemma =>
    have HPR:=As.mk ((parseR_good (key:=key) HQ.out (by have h_:=HN.out;omega) (by rw [hpl]) (by rw [hpl];exact hb)).trans (by rw [hpl]))
    have zs_ : ((strOfNums b).size : Int) = 0:=by rw [strOf_size,hb];rfl
    have zt_ : decide ((0 : Int) < ((strOfNums b).size : Int)) = false:=decide_eq_false (by omega)
    have zu_ : ((0 : Int) < ((strOfNums b).size : Int)) = False:=eq_false (by omega)
    have zv_ : (0 < (strOfNums b).size) = False:=eq_false (by omega)
    clear hpl hlt hb zs_
    go_wp2_with (fail)
    refine bodyPost_ret (results_tmp2 rfl _ _ _) rfl ?_
    rw [HPR.out]
    exact ⟨An,cn,rfl,HVV.out,HB.out⟩
   case neg=>as_aux_lemma =>
    have HPR:=As.mk (parseR_rest (key:=key) HQ.out (by have h_:=HN.out;omega) (by rw [hpl]) (by rw [hpl];exact hb))
    have hlen : 0 < b.length:=List.length_pos_iff.2 hb
    have zs_ : 0 < (strOfNums b).size:=by rw [strOf_size];exact hlen
    have zt_ : decide ((0 : Int) < ((strOfNums b).size : Int)) = true:=decide_eq_true (by omega)
    have zu_ : ((0 : Int) < ((strOfNums b).size : Int)) = True:=eq_true (by omega)
    have zv_ : (0 < (strOfNums b).size) = True:=eq_true zs_
    clear hpl hlt hb hlen zs_
    go_wp2_with (fail)
    refine bodyPost_ret (results_tmp2 rfl _ _ _) rfl ?_
    rw [HPR.out]
    exact ⟨none,0,rfl,Kd.V_nil _ _ _ _ _,HB.out⟩
end Go.Proofs.YtmlebgikdegjjaaGreatDoor.Hd
