/- diff.Apply: what becomes of a snapshot by a patch. -/
import Derived.Test.YtmlebgikdegjjaaGreatDoorDj
import Derived.Test.YtmlebgikdegjjaaGreatDoorUh
import Derived.Test.YtmlebgikdegjjaaGreatDoorPAllx20
set_option maxHeartbeats 16000000
set_option maxRecDepth 100000
namespace Go.Proofs.YtmlebgikdegjjaaGreatDoor.Hd
open Go.Maps Go.RowKit Go.Proofs.YtmlebgikdegjjaaGreatDoorW.PrintWords Go.Proofs.YtmlebgikdegjjaaGreatDoorW.PrintLast Go.Proofs.YtmlebgikdegjjaaGreatDoorW.PrintMore Go.Proofs.YtmlebgikdegjjaaGreatDoor.PAll
attribute [local go_sem] max2_int min2_int max_two min_two max_three min_three max_four min_four
set_option linter.unusedVariables false
set_option linter.unusedSimpArgs false
def putsL (key : S34 → ByteArray) (l : List S34) (ds : List S34) : List S34:=ds.foldl (fun l d=>putL key d l false) l
def stepsL (key : S34 → ByteArray) (l : List S34) (p : List S82) : List S34:=p.foldl (fun l x=>putsL key l x.f2) l
def dropsL (key : S34 → ByteArray) (l : List S34) (ks : List ByteArray) : List S34:=ks.foldl (fun l s=>dropL key s l) l
def applyL (key : S34 → ByteArray) (l : List S34) (p : List S82) : List S34:=stepsL key (dropsL key l (p.map (·.f0))) p
theorem Sn_of {w : World} {v : Value} {M : DataW S34} (h : SnR w v M) : Sn w v M:=Or.inr h
theorem drops_mapK (key : S34 → ByteArray) : ∀ (ks : List ByteArray) (l : List S34),dropM (mapK key l) ks = mapK key (dropsL key l ks)
 | [],_=>rfl
 | k :: ks,l=>by
  show dropM ((mapK key l).del (KL k)) ks = _
  rw [del_mapK,drops_mapK key ks]
  rfl
theorem putsL_ris {key : S34 → ByteArray} : ∀ (ds : List S34) {l : List S34},Ris key l → Ris key (putsL key l ds)
 | [],_,h=>h
 | d :: ds,l,h=>putsL_ris ds (putL_ris d h)
theorem stepsL_ris {key : S34 → ByteArray} : ∀ (p : List S82) {l : List S34},Ris key l → Ris key (stepsL key l p)
 | [],_,h=>h
 | x :: p,l,h=>stepsL_ris p (putsL_ris x.f2 h)
theorem dropsL_ris {key : S34 → ByteArray} : ∀ (ks : List ByteArray) {l : List S34},Ris key l → Ris key (dropsL key l ks)
 | [],_,h=>h
 | k :: ks,l,h=>dropsL_ris ks (dropL_ris k h)
theorem dropsL_len (key : S34 → ByteArray) : ∀ (ks : List ByteArray) (l : List S34),(dropsL key l ks).length ≤ l.length
 | [],_=>Nat.le_refl _
 | k :: ks,l=>Nat.le_trans (dropsL_len key ks _) (dropL_len k l)
theorem putsL_len (key : S34 → ByteArray) : ∀ (ds l : List S34),(putsL key l ds).length ≤ l.length + ds.length
 | [],_=>Nat.le_refl _
 | d :: ds,l=>by
  have h1:=putsL_len key ds (putL key d l false)
  have h2:=putL_len (key:=key) d l false
  simp only [Bool.false_eq_true,if_false] at h2
  show (putsL key (putL key d l false) ds).length ≤ _
  rw [List.length_cons]
  omega
theorem stepsL_len (key : S34 → ByteArray) : ∀ (p : List S82) (l : List S34),(∀ x ∈ p,x.f2.length ≤ 3) → (stepsL key l p).length ≤ l.length + 3 * p.length
 | [],_,_=>Nat.le_refl _
 | x :: p,l,h=>by
  have h1:=stepsL_len key p (putsL key l x.f2) (fun y hy=>h y (List.mem_cons_of_mem _ hy))
  have h2:=putsL_len key x.f2 l
  have h3:=h x (List.mem_cons_self ..)
  show (stepsL key (putsL key l x.f2) p).length ≤ _
  rw [List.length_cons]
  omega
theorem steps_next (key : S34 → ByteArray) (l : List S34) (p : List S82) (n : Nat) (x : S82) (h : p[n]? = some x) : stepsL key l (p.take (n + 1)) = putsL key (stepsL key l (p.take n)) x.f2:=by
 rw [List.take_add_one,h]
 unfold stepsL
 rw [List.foldl_append]
 rfl
theorem puts_next (key : S34 → ByteArray) (l ds : List S34) (n : Nat) (d : S34) (h : ds[n]? = some d) : putsL key l (ds.take (n + 1)) = putL key d (putsL key l (ds.take n)) false:=by
 rw [List.take_add_one,h]
 unfold putsL
 rw [List.foldl_append]
 rfl
theorem apply_good (sp : ByteArray → Bool) (sd : List S34 → ByteArray → Bool) (sm : S34 → S34 → Bool) (key : S34 → ByteArray) (k : Nat) (w : World) (hmx : Nm.MaxOk w) (p : Option Addr) (m : List S34) (hs : Sn w (.pointer p) (mapK key m)) (hvm : ∀ d ∈ m,d.f3.length ≤ 1000000) (A0 : Option Addr) (c0 : Nat) (l : List S82) (hr : Kd.C k82 w A0 l.length l) (hc : l.length ≤ c0) (hl : l.length ≤ 60)
  (hed : ∀ x ∈ l,Edk k sp sd sm x) (hE : ∀ x ∈ l,x.f0.size ≤ maxLen ∧ ∀ a ∈ getM (mapK key m) x.f0,∀ b ∈ x.f1,def_Same.f k a.f0 a.f1 a.f2 a.f3 a.f4 a.f5 b.f0 b.f1 b.f2 b.f3 b.f4 b.f5 = some (sm a b)) (hb1 : rightO sp sd sm (some ⟨#[]⟩) l = true) (hbf : fitsB sm (mapK key m) l = true) (hrm : Ris key m) (hml : m.length ≤ 200) (hx2 : ∀ x ∈ l,x.f0.size ≤ 1000000 ∧ x.f2.length ≤ 3 ∧ ∀ d ∈ x.f2,def_Key.f k d.f0 d.f1 d.f2 d.f3 d.f4 d.f5 = some (key d) ∧ 0 < (key d).size ∧ (key d).size ≤ 1000000 ∧ d.f3.length ≤ 1000000) (hky : diff_Keys.f k l = some (l.map (·.f0))) :
  Calls Tryz.prog 50 #[.pointer p,.slice A0 l.length c0] w fun e w'=>∃ g,e = .returned (.tuple #[.pointer (some ⟨g,0,none⟩),.int .i64 0]) ∧ SnR w' (.pointer (some ⟨g,0,none⟩)) (mapK key (applyL key m l)) ∧ Below w.heap.size w w':=by
 have HL:=As.mk (Nat.le_trans hl (by decide) : l.length ≤ 1000000)
 have HR:=As.mk hr
 have HED:=As.mk hed
 have HS:=As.mk hs
 have HVM:=As.mk (show ∀ d ∈ valsM (mapK key m),d.f3.length ≤ 1000000 by rw [vals_mapK];exact hvm)
 have HMX:=As.mk hmx
 have HB1:=As.mk hb1
 have HB:=As.mk (Below.refl w.heap.size w)
 have hu34:=Tryz.underlying34
 have hu82:=Tryz.underlying82
 have HE:=As.mk hE
 have HBF:=As.mk hbf
 have HC0:=As.mk hc
 have HR0:=As.mk hr
 have HX2:=As.mk hx2
 have HL60:=As.mk hl
 have HML:=As.mk hml
 obtain ⟨ks,hks⟩ : ∃ ks,ks = l.map (·.f0):=⟨_,rfl⟩
 rw [← hks] at hky
 have HKY:=As.mk hky
 have HKZ:=As.mk (show ∀ s ∈ ks,s.size ≤ 1000000 from fun s hs=>by
  rw [hks] at hs
  obtain ⟨x,hx,rfl⟩:=List.mem_map.1 hs
  exact (hx2 x hx).1)
 have HKL:=As.mk (show ks.length ≤ 1000000 by rw [hks,List.length_map];omega)
 obtain ⟨m0,hm0⟩ : ∃ m0,m0 = dropsL key m ks:=⟨_,rfl⟩
 have HDR:=As.mk (show dropM (mapK key m) ks = mapK key m0 by rw [drops_mapK,hm0])
 have HM0:=As.mk (show m0.length ≤ 200 by rw [hm0];exact Nat.le_trans (dropsL_len key ks m) hml)
 have HR0_:=As.mk (show Ris key m0 by rw [hm0];exact dropsL_ris ks hrm)
 have HSZ:=As.mk (show Maps.size (mapK key m) ≤ 1000 by rw [size_mapK];omega)
 have HAP:=As.mk (show applyL key m l = stepsL key m0 l by rw [hm0,hks];rfl)
 clear hr hc hl hed hs hvm hmx hb1 hE hbf hrm hml hx2 hky hks hm0
 go_enter Tryz.func50,Tryz.ntmps50
 go_wp2_with (first | (go_at_call 30;(with_reducible refine (right_calls sp sd sm k _ HMX.out A0 c0 l HR.out HL.out HED.out).mono ?_);rintro e w5 ⟨he_,hb_⟩;rw [HB1.out] at he_;subst he_;have n_HB:=As.mk (bS HB.out hb_);have n_HR:=As.mk (Kd.C_below HR.out hb_);have n_HMX:=As.mk (HMX.out.below hb_);have n_HS:=As.mk (HS.out.below hb_);clear hb_ HB HR HMX HS;have HB:=n_HB;have HR:=n_HR;have HMX:=n_HMX;have HS:=n_HS;clear n_HB n_HR n_HMX n_HS) | (go_at_call 53;(with_reducible refine (dfits_calls sp sd sm k _ HMX.out p (mapK key m) HS.out HVM.out A0 c0 l HR.out HL.out HED.out HE.out).mono ?_);rintro e w6 ⟨he_,hb_⟩;rw [HB1.out,Bool.true_and,HBF.out] at he_;subst he_;have n_HB:=As.mk (bS HB.out hb_);have n_HR:=As.mk (Kd.C_below HR.out hb_);have n_HMX:=As.mk (HMX.out.below hb_);have n_HS:=As.mk (HS.out.below hb_);clear hb_ HB HR HMX HS;have HB:=n_HB;have HR:=n_HR;have HMX:=n_HMX;have HS:=n_HS;clear n_HB n_HR n_HMX n_HS) | (go_at_call 57;(with_reducible refine (diff_Keys.calls k A0 c0 l ks _ HR.out HC0.out HKY.out).mono ?_);rintro e w7 ⟨vk,rfl,ho_,hb_⟩;obtain ⟨Ak,ck,rfl,hlk_,hCk_⟩:=Kd.R_reads ho_;have HCK:=As.mk hCk_;have HLK:=As.mk hlk_;clear ho_ hlk_ hCk_;have n_HB:=As.mk (bS HB.out hb_);have n_HR:=As.mk (Kd.C_below HR.out hb_);have n_HMX:=As.mk (HMX.out.below hb_);have n_HS:=As.mk (HS.out.below hb_);clear hb_ HB HR HMX HS;have HB:=n_HB;have HR:=n_HR;have HMX:=n_HMX;have HS:=n_HS;clear n_HB n_HR n_HMX n_HS) | (go_at_call 20;(with_reducible refine (drop_calls _ _ _ Ak ck ks HS.out HSZ.out HCK.out HLK.out HKZ.out HKL.out).mono ?_);rintro e w8 ⟨vs,rfl,hs_,hb_⟩;rw [HDR.out] at hs_;obtain ⟨gn,bn,rfl,hsn_⟩:=hs_;have HSN:=As.mk (show SnR w8 (.pointer (some ⟨gn,0,none⟩)) (mapK key m0) from ⟨gn,bn,rfl,hsn_.1,hsn_.2.1⟩);clear hsn_;have n_HB:=As.mk (bS HB.out hb_);have n_HR:=As.mk (Kd.C_below HR.out hb_);have n_HMX:=As.mk (HMX.out.below hb_);have n_HS:=As.mk (HS.out.below hb_);clear hb_ HB HR HMX HS;have HB:=n_HB;have HR:=n_HR;have HMX:=n_HMX;have HS:=n_HS;clear n_HB n_HR n_HMX n_HS))
 clear HR HMX HS HCK HLK
 go_loopg [0,27] l.length (fun kq v0 v27 w'=>∃ (n g : Nat),v0 = .pointer (some ⟨g,0,none⟩) ∧ v27 = .int .i64 (n : Int) ∧ n ≤ l.length ∧ As (kq + n = l.length) ∧ As (SnR w' (.pointer (some ⟨g,0,none⟩)) (mapK key (stepsL key m0 (l.take n)))) ∧ As (Below w.heap.size w w'))
 case atStart=>exact ⟨0,gn,rfl,rfl,Nat.zero_le _,⟨rfl⟩,HSN,HB⟩
 case round =>
  clear HSN HB
  obtain ⟨n,g,rfl,rfl,p1,HKQ,HSN,HB⟩:=hrel
  by_cases hlt : n < l.length
  case neg =>
   have c0_ : decide ((n : Int) < (l.length : Int)) = false:=decide_eq_false (by omega)
   have hs_:=HSN.out
   rw [List.take_of_length_le (by omega),← HAP.out] at hs_
   go_wp2_with (fail)
   refine bodyPost_ret (results_tmp2 rfl _ _ _) rfl ?_
   exact ⟨g,rfl,hs_,HB.out⟩
  case pos =>
   obtain ⟨ad,A1,c1,A2,c2,e_,q0,q1,q2,hl1,hC1,hl2,hC2⟩:=at_T82 (Kd.C_below HR0.out HB.out) (n : Int) (by omega) (by omega)
   subst e_
   obtain ⟨x,hx⟩ : ∃ x,x = l[n]:=⟨_,rfl⟩
   rw [show rd_T82 l (n : Int) = x by rw [hx];unfold rd_T82;rw [Int.toNat_natCast,List.getD_eq_getElem?_getD,List.getElem?_eq_getElem hlt];rfl] at q0 q1 q2 hl1 hl2 hC1 hC2
   rw [Int.toNat_natCast] at q0 q1 q2
   have HC2:=As.mk hC2
   have HXX:=As.mk (HX2.out x (by rw [hx];exact List.getElem_mem hlt))
   have HNX:=As.mk (steps_next key m0 l n x (by rw [hx];exact List.getElem?_eq_getElem hlt))
   have HX:=As.mk (show n < l.length ∧ l.length ≤ 60 from ⟨hlt,HL60.out⟩)
   have HOL:=As.mk (show (stepsL key m0 (l.take n)).length ≤ 400 by
    have h_:=stepsL_len key (l.take n) m0 (fun y hy=>(HX2.out y (List.mem_of_mem_take hy)).2.1)
    rw [List.length_take] at h_
    have:=HM0.out
    have:=HX.out
    omega)
   have HOR:=As.mk (stepsL_ris (key:=key) (l.take n) HR0_.out)
   have c0_ : decide ((n : Int) < (l.length : Int)) = true:=decide_eq_true (by omega)
   have p1_ : ((n : Int) < (l.length : Int)) = True:=eq_true (by omega)
   have p2_ : (n < l.length) = True:=eq_true hlt
   have hw1 : wrap64 ((n : Int) + 1) = ((n + 1 : Nat) : Int):=by rw [IntWalk.wrap64_in _ (by have:=HX.out;omega)];omega
   clear hx hl1 hl2 hC1 hC2 hlt p1
   go_upto_region 9 with (fail)
   have bk7:=blk_new wr (Obj.cells #[.string x.f0,.slice A1 x.f1.length c1,.slice A2 x.f2.length c2] 82)
   have hb_:=bA (Below.refl wr.heap.size wr) (Obj.cells #[.string x.f0,.slice A1 x.f1.length c1,.slice A2 x.f2.length c2] 82)
   generalize wr.alloc (Obj.cells #[.string x.f0,.slice A1 x.f1.length c1,.slice A2 x.f2.length c2] 82) = W1 at bk7 hb_ ⊢
   obtain ⟨g7,hg7⟩ : ∃ g7,g7 = wr.heap.size:=⟨_,rfl⟩
   rw [← hg7] at bk7 ⊢
   have b2 : W1.cell? ⟨g7,2,none⟩ = some (.slice A2 x.f2.length c2):=(bC bk7 2).trans rfl
   have n_HB:=As.mk (bS HB.out hb_)
   have n_SN:=As.mk (HSN.out.below hb_)
   have n_C2:=As.mk (Kd.C_below HC2.out hb_)
   have HW1:=As.mk (Below.refl W1.heap.size W1)
   clear HB HSN HC2 hb_ bk7 hg7 q0 q1 q2
   have HB:=n_HB
   have HSN:=n_SN
   have HC2:=n_C2
   clear n_HB n_SN n_C2
   generalize gk = gko at *
   go_wp2_with (fail)
   go_loopg [0,34] x.f2.length (fun kq2 v0 v34 w'=>∃ (j g : Nat),v0 = .pointer (some ⟨g,0,none⟩) ∧ v34 = .int .i64 (j : Int) ∧ j ≤ x.f2.length ∧ As (kq2 + j = x.f2.length) ∧ As (SnR w' (.pointer (some ⟨g,0,none⟩)) (mapK key (putsL key (stepsL key m0 (l.take n)) (x.f2.take j)))) ∧ As (Below w.heap.size w w') ∧ As (Below W1.heap.size W1 w'))
   case atStart=>exact ⟨0,g,rfl,rfl,Nat.zero_le _,⟨rfl⟩,HSN,HB,HW1⟩
   case round =>
    clear HSN HB HW1 b2
    obtain ⟨j,g,rfl,rfl,p3,HKJ,HSN,HB,HW1⟩:=hrel
    by_cases hltj : j < x.f2.length
    case neg =>
     have d0_ : decide ((j : Int) < (x.f2.length : Int)) = false:=decide_eq_false (by omega)
     have hs_:=HSN.out
     rw [show x.f2.take j = x.f2 from List.take_of_length_le (by omega),← HNX.out] at hs_
     go_wp2_with (fail)
     go_roundg (gko - 1)
     case measure=>have:=HKQ.out;have:=HX.out;omega
     case rel=>exact ⟨n + 1,g,rfl,(by first | rfl | rw [hw1]),HX.out.1,⟨by have:=HKQ.out;have:=HX.out;omega⟩,⟨hs_⟩,HB⟩
    case pos =>
     obtain ⟨ad3,A3,c3,e3_,r0,r1,r2,r3,r4,r5,hl3,hC3⟩:=at_T34 (Kd.C_below HC2.out HW1.out) (j : Int) (by omega) (by omega)
     subst e3_
     obtain ⟨d,hd⟩ : ∃ d,d = x.f2[j]:=⟨_,rfl⟩
     rw [show rd_T34 x.f2 (j : Int) = d by rw [hd];unfold rd_T34;rw [Int.toNat_natCast,List.getD_eq_getElem?_getD,List.getElem?_eq_getElem hltj];rfl] at r0 r1 r2 r3 r4 r5 hl3 hC3
     rw [Int.toNat_natCast] at r0 r1 r2 r3 r4 r5
     have HKD:=As.mk (HXX.out.2.2 d (by rw [hd];exact List.getElem_mem hltj))
     have HL3:=As.mk hl3
     have HC3:=As.mk hC3
     have hpn_:=puts_next key (stepsL key m0 (l.take n)) x.f2 j d (by rw [hd];exact List.getElem?_eq_getElem hltj)
     have HXJ:=As.mk (show j < x.f2.length ∧ x.f2.length ≤ 3 from ⟨hltj,HXX.out.2.1⟩)
     have hol_:=putsL_len key (x.f2.take j) (stepsL key m0 (l.take n))
     have hor_:=putsL_ris (key:=key) (x.f2.take j) HOR.out
     obtain ⟨out,hout⟩ : ∃ out,out = putsL key (stepsL key m0 (l.take n)) (x.f2.take j):=⟨_,rfl⟩
     rw [← hout] at HSN hpn_ hol_ hor_
     have HPN:=As.mk hpn_
     have HRIS:=As.mk hor_
     have HSZ5:=As.mk (show Maps.size (mapK key out) < 500 by
      rw [size_mapK]
      rw [List.length_take] at hol_
      have:=HOL.out
      have:=HXJ.out
      omega)
     have d0_ : decide ((j : Int) < (x.f2.length : Int)) = true:=decide_eq_true (by omega)
     have p5_ : ((j : Int) < (x.f2.length : Int)) = True:=eq_true (by omega)
     have p6_ : (j < x.f2.length) = True:=eq_true hltj
     have hw2 : wrap64 ((j : Int) + 1) = ((j + 1 : Nat) : Int):=by rw [IntWalk.wrap64_in _ (by have:=HXJ.out;omega)];omega
     clear hd hl3 hC3 hltj p3 hpn_ hol_ hor_ hout
     go_upto_region 12 with (fail)
     have bk9:=blk_new wr (Obj.cells #[.int .i64 d.f0,.string d.f1,.string d.f2,.slice A3 d.f3.length c3,.string d.f4,.string d.f5] 34)
     have hb_:=bA (Below.refl wr.heap.size wr) (Obj.cells #[.int .i64 d.f0,.string d.f1,.string d.f2,.slice A3 d.f3.length c3,.string d.f4,.string d.f5] 34)
     generalize wr.alloc (Obj.cells #[.int .i64 d.f0,.string d.f1,.string d.f2,.slice A3 d.f3.length c3,.string d.f4,.string d.f5] 34) = W2 at bk9 hb_ ⊢
     obtain ⟨g9,hg9⟩ : ∃ g9,g9 = wr.heap.size:=⟨_,rfl⟩
     rw [← hg9] at bk9 ⊢
     have s0 : W2.cell? ⟨g9,0,none⟩ = some (.int .i64 d.f0):=(bC bk9 0).trans rfl
     have s1 : W2.cell? ⟨g9,1,none⟩ = some (.string d.f1):=(bC bk9 1).trans rfl
     have s2 : W2.cell? ⟨g9,2,none⟩ = some (.string d.f2):=(bC bk9 2).trans rfl
     have s3 : W2.cell? ⟨g9,3,none⟩ = some (.slice A3 d.f3.length c3):=(bC bk9 3).trans rfl
     have s4 : W2.cell? ⟨g9,4,none⟩ = some (.string d.f4):=(bC bk9 4).trans rfl
     have s5 : W2.cell? ⟨g9,5,none⟩ = some (.string d.f5):=(bC bk9 5).trans rfl
     have n_HB:=As.mk (bS HB.out hb_)
     have n_W1:=As.mk (bS HW1.out hb_)
     have n_SN:=As.mk (HSN.out.below hb_)
     have n_C3:=As.mk (C_cells HC3.out (.below hb_))
     clear HB HW1 HSN HC3 hb_ bk9 hg9 r0 r1 r2 r3 r4 r5
     have HB:=n_HB
     have HW1:=n_W1
     have HSN:=n_SN
     have HC3:=n_C3
     clear n_HB n_W1 n_SN n_C3
     go_wp2_with (first | (go_at_call 23;(with_reducible refine (put_ok k _ (.pointer (some ⟨g,0,none⟩)) (mapK key out) d A3 c3 (key d) (Sn_of HSN.out) HL3.out HC3.out HKD.out.1 HKD.out.2.1 HKD.out.2.2.1 HKD.out.2.2.2 HSZ5.out).mono ?_);rintro e w9 ⟨vv,rfl,hs_,hb_⟩;rw [put_mapK d HRIS.out] at hs_;obtain ⟨gn,bn,rfl,hsn_⟩:=hs_;have n_SN:=As.mk (show SnR w9 (.pointer (some ⟨gn,0,none⟩)) (mapK key (putL key d out false)) from ⟨gn,bn,rfl,hsn_.1,hsn_.2.1⟩);have n_HB:=As.mk (bS HB.out hb_);have n_W1:=As.mk (bS HW1.out hb_);clear HB HW1 hb_ hsn_ HSN;have HB:=n_HB;have HW1:=n_W1;have HSN:=n_SN;clear n_HB n_W1 n_SN))
     rw [← HPN.out] at HSN
     go_roundg (gk - 1)
     case measure=>have:=HKJ.out;have:=HXJ.out;omega
     case rel=>exact ⟨j + 1,gn,rfl,(by first | rfl | rw [hw2]),HXJ.out.1,⟨by have:=HKJ.out;have:=HXJ.out;omega⟩,HSN,HB,HW1⟩
end Go.Proofs.YtmlebgikdegjjaaGreatDoor.Hd
