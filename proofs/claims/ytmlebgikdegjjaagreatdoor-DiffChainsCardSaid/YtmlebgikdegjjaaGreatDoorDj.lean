/- diff.Fits: does a patch fit a snapshot? -/
import Derived.Test.YtmlebgikdegjjaaGreatDoorDd
import Derived.Test.YtmlebgikdegjjaaGreatDoorDh
set_option maxHeartbeats 16000000
set_option maxRecDepth 100000
namespace Go.Proofs.YtmlebgikdegjjaaGreatDoor.Hd
open Go.Maps Go.RowKit Go.Proofs.YtmlebgikdegjjaaGreatDoorW.PrintWords Go.Proofs.YtmlebgikdegjjaaGreatDoorW.PrintLast Go.Proofs.YtmlebgikdegjjaaGreatDoorW.PrintMore Go.Proofs.YtmlebgikdegjjaaGreatDoor.PAll
attribute [local go_sem] max2_int min2_int max_two min_two max_three min_three max_four min_four
set_option linter.unusedVariables false
set_option linter.unusedSimpArgs false
def difffits.T1 : Bool × List (List Nat × List Nat):=(true,[([],[]),([],[]),([1],[1]),([0,2],[0,2]),([],[]),([4],[4]),([3,5,3],[3,5]),([6],[6]),([7,6,0,1,2,3,4,5,6,7],[7])])
def difffits.B1 : List Nat:=[0,0,2,7,0,16,63,127,255]
theorem difffits.tab1 : rtab .any (opsOf Tryz.f91 1) = difffits.T1:=by kernel_rfl
theorem difffits.bits1 : waitsOk difffits.T1.2 difffits.B1 = true:=by kernel_rfl
def fitsB (sm : S34 → S34 → Bool) (M : DataW S34) (p : List S82) : Bool:=p.all fun x=>alike sm (getM M x.f0) x.f1
theorem fits1_calls (sm : S34 → S34 → Bool) (k : Nat) (w : World) (gx : Nat) (p : Option Addr) (M : DataW S34) (hx : w.cell? ⟨gx,0,none⟩ = some (.pointer p)) (hs : Sn w (.pointer p) M) (hvm : ∀ d ∈ valsM M,d.f3.length ≤ 1000000) (x : S82) (A1 : Option Addr) (c1 : Nat) (A2 : Option Addr) (c2 : Nat)
  (h1 : Kd.C k34 w A1 x.f1.length x.f1) (hkz : x.f0.size ≤ maxLen) (hsm : ∀ a ∈ getM M x.f0,∀ b ∈ x.f1,def_Same.f k a.f0 a.f1 a.f2 a.f3 a.f4 a.f5 b.f0 b.f1 b.f2 b.f3 b.f4 b.f5 = some (sm a b)) :
  Calls Tryz.prog 91 #[.agg #[.string x.f0,.slice A1 x.f1.length c1,.slice A2 x.f2.length c2],.pointer (some ⟨gx,0,none⟩)] w fun e w'=>e = .returned (.bool (!alike sm (getM M x.f0) x.f1)) ∧ Below w.heap.size w w':=by
 have HKZ:=As.mk hkz
 have HVM:=As.mk hvm
 have HSM:=As.mk hsm
 obtain ⟨bv,hbv⟩ : ∃ bv,bv = alike sm (getM M x.f0) x.f1:=⟨_,rfl⟩
 rw [← hbv]
 have HBV:=As.mk hbv
 clear hkz hvm hsm hbv
 go_enter Tryz.func91,Tryz.ntmps91
 go_upto_region 1 with (fail)
 have bk2:=blk_new w (Obj.cells #[.string x.f0,.slice A1 x.f1.length c1,.slice A2 x.f2.length c2] 82)
 have hb_:=bA (Below.refl w.heap.size w) (Obj.cells #[.string x.f0,.slice A1 x.f1.length c1,.slice A2 x.f2.length c2] 82)
 generalize w.alloc (Obj.cells #[.string x.f0,.slice A1 x.f1.length c1,.slice A2 x.f2.length c2] 82) = W1 at bk2 hb_ ⊢
 obtain ⟨g2,hg2⟩ : ∃ g2,g2 = w.heap.size:=⟨_,rfl⟩
 rw [← hg2] at bk2 ⊢
 have hb2_:=bS hb_ (bD (Below.refl _ W1))
 have HB:=As.mk hb2_
 have HS:=As.mk (hs.below hb2_)
 have HC1:=As.mk (Kd.C_below h1 hb2_)
 have qx : W1.drew.cell? ⟨gx,0,none⟩ = some (.pointer p):=pC hb2_ hx
 have b0 : W1.drew.cell? ⟨g2,0,none⟩ = some (.string x.f0):=(bC (kD bk2) 0).trans rfl
 have b1 : W1.drew.cell? ⟨g2,1,none⟩ = some (.slice A1 x.f1.length c1):=(bC (kD bk2) 1).trans rfl
 have b2 : W1.drew.cell? ⟨g2,2,none⟩ = some (.slice A2 x.f2.length c2):=(bC (kD bk2) 2).trans rfl
 clear hx hs h1 hb_ hb2_ bk2 hg2
 refine start_ (n:=9) (S:=fun w'=>w'.cell? ⟨gx,0,none⟩ = some (.pointer p) ∧ w'.cell? ⟨g2,0,none⟩ = some (.string x.f0) ∧ w'.cell? ⟨g2,1,none⟩ = some (.slice A1 x.f1.length c1) ∧ w'.cell? ⟨g2,2,none⟩ = some (.slice A2 x.f2.length c2)) (ds:=[6]) #[false,false,false,false,false,false,false,false,false] (by kernel_rfl) rfl rfl ⟨qx,b0,b1,b2⟩ (fun hHeld=>?_);refine with_tabW difffits.tab1 difffits.bits1 (fun HT_ HW_=>?_)
 refine pure_ (i:=1) (N:=some 5) (v:=?_) (a':=?_) #[false,true,false,false,false,false,false,false,false] rfl rfl (any_of HT_.out (by kernel_rfl)) (fun _ _ _ h=>h) (Or.inl ⟨by rfl,?_⟩) ?_ ?_
 rotate_left
 ·intro w'
  go_simp
  with_reducible rfl
 rotate_left
 ·simp only [Act.put,List.setIfInBounds_toArray,List.set_cons_zero,List.set_cons_succ,i64_w,i32_w]
  rfl
 refine pure_ (i:=4) (N:=some 8) (v:=?_) (a':=?_) #[false,true,false,false,true,false,false,false,false] rfl rfl (any_of HT_.out (by kernel_rfl)) (fun _ _ _ h=>h) (Or.inl ⟨by rfl,?_⟩) ?_ ?_
 rotate_left
 ·intro w'
  go_simp
  with_reducible rfl
 rotate_left
 ·simp only [Act.put,List.setIfInBounds_toArray,List.set_cons_zero,List.set_cons_succ,i64_w,i32_w]
  rfl
 refine take_ (i:=0) (N:=some 4) (v:=?_) (a':=?_) #[true,true,false,false,true,false,false,false,false] rfl rfl (take_ofW HT_.out HW_.out (by kernel_rfl)) (fun _ _ _ h=>h) (Or.inl ⟨by rfl,?_⟩) hHeld ?_ ?_
 rotate_left
 ·rintro w' ⟨s0,s1,s2,s3⟩
  go_simp
  with_reducible rfl
 rotate_left
 ·simp only [Act.put,List.setIfInBounds_toArray,List.set_cons_zero,List.set_cons_succ,i64_w,i32_w]
  rfl
 refine take_ (i:=2) (N:=some 6) (v:=?_) (a':=?_) #[true,true,true,false,true,false,false,false,false] rfl rfl (take_ofW HT_.out HW_.out (by kernel_rfl)) (fun _ _ _ h=>h) (Or.inl ⟨by rfl,?_⟩) hHeld ?_ ?_
 rotate_left
 ·rintro w' ⟨s0,s1,s2,s3⟩
  go_simp
  with_reducible rfl
 rotate_left
 ·simp only [Act.put,List.setIfInBounds_toArray,List.set_cons_zero,List.set_cons_succ,i64_w,i32_w]
  rfl
 refine take_ (i:=5) (N:=some 9) (v:=?_) (a':=?_) #[true,true,true,false,true,true,false,false,false] rfl rfl (take_ofW HT_.out HW_.out (by kernel_rfl)) (fun _ _ _ h=>h) (Or.inl ⟨by rfl,?_⟩) hHeld ?_ ?_
 rotate_left
 ·rintro w' ⟨s0,s1,s2,s3⟩
  go_simp
  with_reducible rfl
 rotate_left
 ·simp only [Act.put,List.setIfInBounds_toArray,List.set_cons_zero,List.set_cons_succ,i64_w,i32_w]
  rfl
 refine one_ (i:=3) (N:=some 7) #[true,true,true,true,true,true,false,false,false] rfl rfl (one_of HT_.out (by kernel_rfl)) (by decide) (fun K hK=>?_)
 refine goes_ Tryz.func92 (by kernel_rfl) rfl #[.pointer p,.string x.f0] (by rfl) rfl rfl (by (try simp only [List.map_toArray,List.map_cons,List.map_nil]);first | done | rfl | (simp only [List.length_drop,List.length_take];rfl)) ?_
 with_reducible refine (dget_calls _ p M x.f0 HS.out HKZ.out HVM.out).mono ?_
 rintro er w3 ⟨vx,rfl,ho_,hb_⟩
 obtain ⟨Ax,cx,rfl,hlx_,hcx_⟩:=Kd.N_reads ho_
 have HCX:=As.mk hcx_
 have n_HB:=As.mk (bS HB.out hb_)
 have n_HC1:=As.mk (Kd.C_below HC1.out hb_)
 have n_qx:=pC hb_ qx
 have n_b0:=pC hb_ b0
 have n_b1:=pC hb_ b1
 have n_b2:=pC hb_ b2
 clear HB HC1 ho_ hb_ hlx_ hcx_ qx b0 b1 b2
 have HB:=n_HB
 have HC1:=n_HC1
 have qx:=n_qx
 have b0:=n_b0
 have b1:=n_b1
 have b2:=n_b2
 clear n_HB n_HC1 n_qx n_b0 n_b1 n_b2
 refine ⟨_,rfl,?_⟩
 refine hK.out _ _ ⟨qx,b0,b1,b2⟩ (fun hHeld=>?_)
 clear hK K
 refine norm_ (a':=?_) ?_ ?_
 rotate_left
 ·show Act.put _ (some 7) _ = _
  simp only [Act.put,List.setIfInBounds_toArray,List.set_cons_zero,List.set_cons_succ,i64_w,i32_w]
  rfl
 refine last_ (i:=6) (N:=some 10) #[true,true,true,true,true,true,true,false,false] rfl rfl (one_of HT_.out (by kernel_rfl)) (by decide) (fun K hK=>?_)
 refine goes_ Tryz.func74 (by kernel_rfl) rfl #[.slice Ax (getM M x.f0).length cx,.slice A1 x.f1.length c1] (by rfl) rfl rfl (by (try simp only [List.map_toArray,List.map_cons,List.map_nil]);first | done | rfl | (simp only [List.length_drop,List.length_take];rfl)) ?_
 with_reducible refine (dsame_calls sm k _ Ax cx (getM M x.f0) A1 c1 x.f1 HCX.out HC1.out (Nat.le_trans (getM_len M x.f0) (by decide)) HSM.out).mono ?_
 rintro er w5 ⟨he_,hb_⟩
 rw [← HBV.out] at he_
 subst he_
 have n_HB:=As.mk (bS HB.out hb_)
 clear HB hb_
 have HB:=n_HB
 clear n_HB
 refine ⟨_,rfl,?_⟩
 refine hK.out _ _ ?_
 clear hK K
 refine norm_ (a':=?_) ?_ ?_
 rotate_left
 ·show Act.put _ (some 10) _ = _
  simp only [Act.put,List.setIfInBounds_toArray,List.set_cons_zero,List.set_cons_succ,i64_w,i32_w]
  rfl
 refine pure_ (i:=7) (N:=some 11) (v:=?_) (a':=?_) #[true,true,true,true,true,true,true,true,false] rfl rfl (any_of HT_.out (by kernel_rfl)) (fun _ _ _ h=>h) (Or.inl ⟨by rfl,?_⟩) ?_ ?_
 rotate_left
 ·intro w'
  go_simp
  with_reducible rfl
 rotate_left
 ·simp only [Act.put,List.setIfInBounds_toArray,List.set_cons_zero,List.set_cons_succ,i64_w,i32_w]
  rfl
 refine pure_ (i:=8) (N:=some 3) (v:=?_) (a':=?_) #[true,true,true,true,true,true,true,true,true] rfl rfl (any_of HT_.out (by kernel_rfl)) (fun _ _ _ h=>h) (Or.inl ⟨by rfl,?_⟩) ?_ ?_
 rotate_left
 ·intro w'
  go_simp
  with_reducible rfl
 rotate_left
 ·simp only [Act.put,List.setIfInBounds_toArray,List.set_cons_zero,List.set_cons_succ,i64_w,i32_w]
  rfl
 refine done_ (done_of HT_.out (by kernel_rfl)) ?_
 go_wp2_with (fail)
 go_ret
 exact ⟨rfl,HB.out⟩
theorem fitsB_drop (sm : S34 → S34 → Bool) (M : DataW S34) (l : List S82) (n : Nat) (x : S82) (h : l[n]? = some x) : fitsB sm M (l.drop n) = (alike sm (getM M x.f0) x.f1 && fitsB sm M (l.drop (n + 1))):=by
 obtain ⟨hlt,rfl⟩:=List.getElem?_eq_some_iff.1 h
 rw [List.drop_eq_getElem_cons hlt]
 rfl
theorem idx_calls (sm : S34 → S34 → Bool) (k : Nat) (w : World) (gx : Nat) (p : Option Addr) (M : DataW S34) (hx : w.cell? ⟨gx,0,none⟩ = some (.pointer p)) (hs : Sn w (.pointer p) M) (hvm : ∀ d ∈ valsM M,d.f3.length ≤ 1000000) (A0 : Option Addr) (c0 : Nat) (l : List S82) (hr : Kd.C k82 w A0 l.length l) (hl : l.length ≤ 1000000)
  (hE : ∀ x ∈ l,x.f0.size ≤ maxLen ∧ ∀ a ∈ getM M x.f0,∀ b ∈ x.f1,def_Same.f k a.f0 a.f1 a.f2 a.f3 a.f4 a.f5 b.f0 b.f1 b.f2 b.f3 b.f4 b.f5 = some (sm a b)) :
  Calls Tryz.prog 128 #[.slice A0 l.length c0,.func (.func 91) #[] #[.pointer (some ⟨gx,0,none⟩)]] w fun e w'=>∃ i : Int,e = .returned (.int .i64 i) ∧ decide (0 ≤ i) = !fitsB sm M l ∧ Below w.heap.size w w':=by
 have hu34:=Tryz.underlying34
 have hu82:=Tryz.underlying82
 have HL:=As.mk hl
 have HR:=As.mk hr
 have HE:=As.mk hE
 have HQX:=As.mk hx
 have HS:=As.mk hs
 have HVM:=As.mk hvm
 have HB:=As.mk (Below.refl w.heap.size w)
 obtain ⟨res,hres⟩ : ∃ res,res = fitsB sm M l:=⟨_,rfl⟩
 rw [← hres]
 have HRES:=As.mk hres
 clear hr hl hE hx hs hvm hres
 go_enter Tryz.func128,Tryz.ntmps128
 go_wp2_with (fail)
 go_loopg [8] l.length (fun kq v8 w'=>∃ n : Nat,v8 = .int .i64 (n : Int) ∧ n ≤ l.length ∧ As (kq + n = l.length) ∧ As (res = fitsB sm M (l.drop n)) ∧ As (Below w.heap.size w w'))
 case atStart=>exact ⟨0,rfl,Nat.zero_le _,⟨rfl⟩,HRES,HB⟩
 case round =>
  clear HB HRES
  obtain ⟨n,rfl,p1,HKQ,HRES,HB⟩:=hrel
  by_cases hlt : n < l.length
  case neg =>
   have c0_ : decide ((n : Int) < (l.length : Int)) = false:=decide_eq_false (by omega)
   have h_:=HRES.out
   rw [List.drop_of_length_le (by omega)] at h_
   have HH:=As.mk h_
   clear h_
   go_wp2_with (fail)
   go_ret
   exact ⟨-1,rfl,by rw [HH.out];rfl,HB.out⟩
  case pos =>
   obtain ⟨ad,A1,c1,A2,c2,e_,q0,q1,q2,hl1,hC1,hl2,hC2⟩:=at_T82 (Kd.C_below HR.out HB.out) (n : Int) (by omega) (by omega)
   subst e_
   obtain ⟨x,hx⟩ : ∃ x,x = l[n]:=⟨_,rfl⟩
   rw [show rd_T82 l (n : Int) = x by rw [hx];unfold rd_T82;rw [Int.toNat_natCast,List.getD_eq_getElem?_getD,List.getElem?_eq_getElem hlt];rfl] at q0 q1 q2 hl1 hl2 hC1 hC2
   rw [Int.toNat_natCast] at q0 q1 q2
   have HC1:=As.mk hC1
   obtain ⟨hkz,hsm⟩:=HE.out x (by rw [hx];exact List.getElem_mem hlt)
   have HKZ:=As.mk hkz
   have HSM:=As.mk hsm
   have hnx:=fitsB_drop sm M l n x (by rw [hx];exact List.getElem?_eq_getElem hlt)
   rw [← HRES.out] at hnx
   obtain ⟨bv,hbv⟩ : ∃ bv,bv = alike sm (getM M x.f0) x.f1:=⟨_,rfl⟩
   rw [← hbv] at hnx
   have HBV:=As.mk (show (!bv) = !alike sm (getM M x.f0) x.f1 by rw [hbv])
   have HNX:=As.mk hnx
   have HX:=As.mk (show n < l.length ∧ l.length ≤ 1000000 from ⟨hlt,HL.out⟩)
   have c0_ : decide ((n : Int) < (l.length : Int)) = true:=decide_eq_true (by omega)
   have p1_ : ((n : Int) < (l.length : Int)) = True:=eq_true (by omega)
   have p2_ : (n < l.length) = True:=eq_true hlt
   have hw1 : wrap64 ((n : Int) + 1) = ((n + 1 : Nat) : Int):=by rw [IntWalk.wrap64_in _ (by have:=HX.out;omega)];omega
   clear hx hnx hbv hkz hsm hl1 hl2 hC1 hC2 hlt p1 HRES
   cases bv with
   | true =>
    go_wp2_with (first | (go_at_call 91;(with_reducible refine (fits1_calls sm k _ gx p M (pC HB.out HQX.out) (HS.out.below HB.out) HVM.out x A1 c1 A2 c2 HC1.out HKZ.out HSM.out).mono ?_);rintro e w5 ⟨he_,hb_⟩;rw [← HBV.out] at he_;subst he_;have n_HB:=As.mk (bS HB.out hb_);clear HB hb_;have HB:=n_HB;clear n_HB))
    go_roundg (gk - 1)
    case measure=>have:=HKQ.out;have:=HX.out;omega
    case rel=>exact ⟨n + 1,(by first | rfl | rw [hw1]),HX.out.1,⟨by have:=HKQ.out;have:=HX.out;omega⟩,⟨HNX.out⟩,HB⟩
   | false =>
    go_wp2_with (first | (go_at_call 91;(with_reducible refine (fits1_calls sm k _ gx p M (pC HB.out HQX.out) (HS.out.below HB.out) HVM.out x A1 c1 A2 c2 HC1.out HKZ.out HSM.out).mono ?_);rintro e w5 ⟨he_,hb_⟩;rw [← HBV.out] at he_;subst he_;have n_HB:=As.mk (bS HB.out hb_);clear HB hb_;have HB:=n_HB;clear n_HB))
    go_ret
    exact ⟨(n : Int),rfl,by rw [HNX.out];exact decide_eq_true (Int.natCast_nonneg _),HB.out⟩
theorem cont_calls (sm : S34 → S34 → Bool) (k : Nat) (w : World) (gx : Nat) (p : Option Addr) (M : DataW S34) (hx : w.cell? ⟨gx,0,none⟩ = some (.pointer p)) (hs : Sn w (.pointer p) M) (hvm : ∀ d ∈ valsM M,d.f3.length ≤ 1000000) (A0 : Option Addr) (c0 : Nat) (l : List S82) (hr : Kd.C k82 w A0 l.length l) (hl : l.length ≤ 1000000)
  (hE : ∀ x ∈ l,x.f0.size ≤ maxLen ∧ ∀ a ∈ getM M x.f0,∀ b ∈ x.f1,def_Same.f k a.f0 a.f1 a.f2 a.f3 a.f4 a.f5 b.f0 b.f1 b.f2 b.f3 b.f4 b.f5 = some (sm a b)) :
  Calls Tryz.prog 90 #[.slice A0 l.length c0,.func (.func 91) #[] #[.pointer (some ⟨gx,0,none⟩)]] w fun e w'=>e = .returned (.bool (!fitsB sm M l)) ∧ Below w.heap.size w w':=by
 have h:=idx_calls sm k w gx p M hx hs hvm A0 c0 l hr hl hE
 clear hx hs hvm hr hl hE
 go_enter Tryz.func90,Tryz.ntmps90
 go_wp2_with (first | (go_at_call 128;(with_reducible refine h.mono ?_);rintro e w5 ⟨i,rfl,hi,hb_⟩))
 go_ret
 refine ⟨?_,hb_⟩
 rw [← hi]
 rfl
theorem dfits_calls (sp : ByteArray → Bool) (sd : List S34 → ByteArray → Bool) (sm : S34 → S34 → Bool) (k : Nat) (w : World) (hmx : Nm.MaxOk w) (p : Option Addr) (M : DataW S34) (hs : Sn w (.pointer p) M) (hvm : ∀ d ∈ valsM M,d.f3.length ≤ 1000000) (A0 : Option Addr) (c0 : Nat) (l : List S82) (hr : Kd.C k82 w A0 l.length l) (hl : l.length ≤ 1000000)
  (hed : ∀ x ∈ l,Edk k sp sd sm x) (hE : ∀ x ∈ l,x.f0.size ≤ maxLen ∧ ∀ a ∈ getM M x.f0,∀ b ∈ x.f1,def_Same.f k a.f0 a.f1 a.f2 a.f3 a.f4 a.f5 b.f0 b.f1 b.f2 b.f3 b.f4 b.f5 = some (sm a b)) :
  Calls Tryz.prog 53 #[.pointer p,.slice A0 l.length c0] w fun e w'=>e = .returned (.bool (rightO sp sd sm (some ⟨#[]⟩) l && fitsB sm M l)) ∧ Below w.heap.size w w':=by
 have HL:=As.mk hl
 have HR:=As.mk hr
 have HE:=As.mk hE
 have HED:=As.mk hed
 have HS:=As.mk hs
 have HVM:=As.mk hvm
 have HMX:=As.mk hmx
 obtain ⟨b1,hb1⟩ : ∃ b,b = rightO sp sd sm (some ⟨#[]⟩) l:=⟨_,rfl⟩
 obtain ⟨bf,hbf⟩ : ∃ b,b = fitsB sm M l:=⟨_,rfl⟩
 rw [← hb1,← hbf]
 have HB1:=As.mk hb1
 have HBF:=As.mk (show (!bf) = !fitsB sm M l by rw [hbf])
 clear hr hl hed hE hs hvm hmx hb1 hbf
 go_enter Tryz.func53,Tryz.ntmps53
 go_upto_region 1 with (fail)
 have bk2:=blk_new w (Obj.cells #[.pointer p] 26)
 have hb_:=bA (Below.refl w.heap.size w) (Obj.cells #[.pointer p] 26)
 generalize w.alloc (Obj.cells #[.pointer p] 26) = W1 at bk2 hb_ ⊢
 obtain ⟨gx,hgx⟩ : ∃ gx,gx = w.heap.size:=⟨_,rfl⟩
 rw [← hgx] at bk2 ⊢
 have HB1_:=As.mk hb_
 have HB:=As.mk hb_
 have HQX:=As.mk ((bC bk2 0).trans rfl : W1.cell? ⟨gx,0,none⟩ = some (.pointer p))
 clear hb_ bk2 hgx
 cases b1 with
 | false =>
  go_wp2_with (first | (go_at_call 30;(with_reducible refine (right_calls sp sd sm k _ (HMX.out.below (by repeat (first | (with_reducible first | exact HB.out | apply bA | apply bN | apply bD) | exact HB.out))) A0 c0 l (Kd.C_below HR.out (by repeat (first | (with_reducible first | exact HB.out | apply bA | apply bN | apply bD) | exact HB.out))) HL.out HED.out).mono ?_);rintro e w5 ⟨he_,hb_⟩;rw [← HB1.out] at he_;subst he_;have n_HB:=As.mk (bS HB1_.out hb_);clear hb_;have HB2:=n_HB;clear n_HB))
  go_ret
  exact ⟨rfl,HB2.out⟩
 | true =>
  go_wp2_with (first | (go_at_call 30;(with_reducible refine (right_calls sp sd sm k _ (HMX.out.below (by repeat (first | (with_reducible first | exact HB.out | apply bA | apply bN | apply bD) | exact HB.out))) A0 c0 l (Kd.C_below HR.out (by repeat (first | (with_reducible first | exact HB.out | apply bA | apply bN | apply bD) | exact HB.out))) HL.out HED.out).mono ?_);rintro e w5 ⟨he_,hb_⟩;rw [← HB1.out] at he_;subst he_;have HB3:=As.mk hb_;have n_HB:=As.mk (bS HB1_.out hb_);clear hb_;have HB2:=n_HB;clear n_HB) | (go_at_call 90;(with_reducible refine (cont_calls sm k _ gx p M (pC HB3.out HQX.out) (HS.out.below HB2.out) HVM.out A0 c0 l (Kd.C_below HR.out HB2.out) HL.out HE.out).mono ?_);rintro e w6 ⟨he_,hb_⟩;rw [← HBF.out] at he_;subst he_;have n_HB:=As.mk (bS HB2.out hb_);clear HB2 hb_;have HB2:=n_HB;clear n_HB))
  go_ret
  refine ⟨?_,HB2.out⟩
  cases bf <;> rfl
end Go.Proofs.YtmlebgikdegjjaaGreatDoor.Hd
