/- snap.Parse, for all octets. -/
import Derived.Test.YtmlebgikdegjjaaGreatDoorVc
set_option maxHeartbeats 16000000
set_option maxRecDepth 100000
namespace Go.Proofs.YtmlebgikdegjjaaGreatDoor.Hd
open Go.Maps Go.RowKit Go.Proofs.YtmlebgikdegjjaaGreatDoorW.PrintWords Go.Proofs.YtmlebgikdegjjaaGreatDoorW.PrintLast Go.Proofs.YtmlebgikdegjjaaGreatDoorW.PrintMore Go.Proofs.YtmlebgikdegjjaaGreatDoor.PAll
attribute [local go_sem] max2_int min2_int max_two min_two max_three min_three max_four min_four
set_option linter.unusedVariables false
set_option linter.unusedSimpArgs false
theorem end_rest (g : Nat) (b : List Int) (w0 w : World) (hI : OcR w0 w g b 0) (hb : b ≠ []) : Calls Tryz.prog 99 #[.pointer (some ⟨g,0,none⟩)] w fun r w'=>r = .returned (.int .i64 11) ∧ w' = w:=by
 obtain ⟨Ad,cp,hg,hge,hC,hl⟩:=hI
 have hlen : 0 < b.length:=List.length_pos_iff.2 hb
 have hcz_0 : w.cell? ⟨g,0,none⟩ = some (.slice Ad b.length cp):=(bC hg 0).trans rfl
 have hcz_1 : w.cell? ⟨g,1,none⟩ = some (.int .i64 0):=(bC hg 1).trans rfl
 have hfz_0:=bF hg 0
 have hfz_1:=bF hg 1
 have z1 : decide ((0 : Int) < (b.length : Int)) = true:=decide_eq_true (by omega)
 have z2 : ((0 : Int) < (b.length : Int)) = True:=eq_true (by omega)
 clear hg hge hC hl hb
 go_enter Tryz.func99,Tryz.ntmps99
 go_wp2_with (fail)
 go_ret
 exact ⟨rfl,rfl⟩
theorem parse_num (key : S34 → ByteArray) (A0 : Option Addr) (c0 : Nat) (bs : List Int) (w : World) (hr : Kd.C (Kd.int .u8) w A0 bs.length bs) (hc : bs.length ≤ c0) (hlen : bs.length ≤ 2000) (hok : BytesOk bs) (n e1 : Int) (b1 : List Int) (hq : numR bs 0 = (n,b1,e1)) (he : e1 ≠ 0) :
  Calls Tryz.prog 58 #[.slice A0 bs.length c0] w fun e w'=>∃ p,e = .returned (.tuple #[.pointer p,.int .i64 (parseR key bs).2]) ∧ ((parseR key bs).2 = 0 → SnR w' (.pointer p) (mapK key (parseR key bs).1)) ∧ ((parseR key bs).2 ≠ 0 → p = none) ∧ Below w.heap.size w w':=by
 have HR:=As.mk hr
 have HC:=As.mk hc
 have HLEN:=As.mk (show bs.length ≤ 1000000 by omega)
 have HOK:=As.mk hok
 have HQ:=As.mk hq
 have HPR:=As.mk (parseR_num (key:=key) hq he)
 have HE:=As.mk he
 have z1 : (e1 != 0) = true:=bne_iff_ne.mpr he
 clear hr hc hlen hok hq he
 go_enter Tryz.func58,Tryz.ntmps58
 go_wp2_with (first | (go_at_call 95;(with_reducible refine (open_calls A0 c0 bs w HR.out HC.out HLEN.out).mono ?_);rintro e w1 ⟨gr,w0,rfl,hb0_,hI1,hB1⟩;have HW0:=As.mk hb0_;have HI:=As.mk hI1;have HB:=As.mk hB1;clear hb0_ hI1 hB1) | (go_at_call 96;(with_reducible refine (num_calls gr bs 0 HOK.out w0 _ HI.out HB.out).mono ?_);rintro e w2 ⟨rfl,hI1,hB1,_⟩;rw [HQ.out] at hI1;rw [HQ.out];dsimp only at hI1 ⊢;have n0_:=As.mk hI1;have n1_:=As.mk hB1;clear HI HB hI1 hB1;have HI:=n0_;have HB:=n1_;clear n0_ n1_) | (go_at_call 97;(with_reducible refine (err_calls gr b1 e1 w0 _ HI.out HB.out).mono ?_);rintro e w3 ⟨rfl,hI1,hB1,_⟩;have n0_:=As.mk hI1;have n1_:=As.mk hB1;clear HI HB hI1 hB1;have HI:=n0_;have HB:=n1_;clear n0_ n1_))
 refine bodyPost_ret (results_tmp2 rfl _ _ _) rfl ?_
 rw [HPR.out]
 exact ⟨none,rfl,fun h_=>absurd h_ HE.out,fun _=>rfl,HW0.out.trans (((by repeat (first | (with_reducible first | exact HB.out | apply bA | apply bN | apply bD) | exact HB.out)) : Below w0.heap.size w0 _).mono HW0.out.size)⟩
theorem parse_full (key : S34 → ByteArray) (A0 : Option Addr) (c0 : Nat) (bs : List Int) (w : World) (hr : Kd.C (Kd.int .u8) w A0 bs.length bs) (hc : bs.length ≤ c0) (hlen : bs.length ≤ 2000) (hok : BytesOk bs) (n : Int) (b1 : List Int) (hq : numR bs 0 = (n,b1,0)) (hn : n > 500) :
  Calls Tryz.prog 58 #[.slice A0 bs.length c0] w fun e w'=>∃ p,e = .returned (.tuple #[.pointer p,.int .i64 (parseR key bs).2]) ∧ ((parseR key bs).2 = 0 → SnR w' (.pointer p) (mapK key (parseR key bs).1)) ∧ ((parseR key bs).2 ≠ 0 → p = none) ∧ Below w.heap.size w w':=by
 have HR:=As.mk hr
 have HC:=As.mk hc
 have HLEN:=As.mk (show bs.length ≤ 1000000 by omega)
 have HOK:=As.mk hok
 have HQ:=As.mk hq
 have HPR:=As.mk (parseR_full (key:=key) hq hn)
 have z1 : decide ((500 : Int) < n) = true:=decide_eq_true hn
 have z2 : ((500 : Int) < n) = True:=eq_true hn
 clear hr hc hlen hok hq hn
 go_enter Tryz.func58,Tryz.ntmps58
 go_wp2_with (first | (go_at_call 95;(with_reducible refine (open_calls A0 c0 bs w HR.out HC.out HLEN.out).mono ?_);rintro e w1 ⟨gr,w0,rfl,hb0_,hI1,hB1⟩;have HW0:=As.mk hb0_;have HI:=As.mk hI1;have HB:=As.mk hB1;clear hb0_ hI1 hB1) | (go_at_call 96;(with_reducible refine (num_calls gr bs 0 HOK.out w0 _ HI.out HB.out).mono ?_);rintro e w2 ⟨rfl,hI1,hB1,_⟩;rw [HQ.out] at hI1;rw [HQ.out];dsimp only at hI1 ⊢;have n0_:=As.mk hI1;have n1_:=As.mk hB1;clear HI HB hI1 hB1;have HI:=n0_;have HB:=n1_;clear n0_ n1_) | (go_at_call 97;(with_reducible refine (err_calls gr b1 0 w0 _ HI.out HB.out).mono ?_);rintro e w3 ⟨rfl,hI1,hB1,_⟩;have n0_:=As.mk hI1;have n1_:=As.mk hB1;clear HI HB hI1 hB1;have HI:=n0_;have HB:=n1_;clear n0_ n1_))
 refine bodyPost_ret (results_tmp2 rfl _ _ _) rfl ?_
 rw [HPR.out]
 exact ⟨none,rfl,fun h_=>absurd h_ (show ¬ (21 : Int) = 0 by decide),fun _=>rfl,HW0.out.trans (((by repeat (first | (with_reducible first | exact HB.out | apply bA | apply bN | apply bD) | exact HB.out)) : Below w0.heap.size w0 _).mono HW0.out.size)⟩
def snapparseg.T16 : Bool × List (List Nat × List Nat):=(true,[([],[]),([0],[0]),([1],[1]),([2],[2]),([],[]),([],[]),([3,4,5,0,1,2,3,4,5],[3,4,5])])
def snapparseg.B16 : List Nat:=[0,1,3,7,0,0,63]
theorem snapparseg.tab16 : rtab .any (opsOf Tryz.f58 16) = snapparseg.T16:=by kernel_rfl
theorem snapparseg.bits16 : waitsOk snapparseg.T16.2 snapparseg.B16 = true:=by kernel_rfl
theorem parse_calls (key : S34 → ByteArray) (A0 : Option Addr) (c0 : Nat) (bs : List Int) (w : World) (hr : Kd.C (Kd.int .u8) w A0 bs.length bs) (hc : bs.length ≤ c0) (hlen : bs.length ≤ 2000) (hok : BytesOk bs) (n : Int) (b1 : List Int) (hq : numR bs 0 = (n,b1,0)) (hn : ¬ n > 500) (h0 : 0 ≤ n) (ho1 : BytesOk b1) (hl1 : b1.length ≤ 2000)
  (hinv : ∀ (b : List Int) (d : DV) (b' : List Int) (e' : Int),BytesOk b → readR b 0 = (d,0,b',e') → b = defS (toS d) ++ b' ∧ e' = 0)
  (hkey : ∀ (b : List Int) (d : DV) (b' : List Int) (e' : Int),BytesOk b → b.length ≤ 2000 → readR b 0 = (d,0,b',e') → (∃ k,def_Key.f k d.kd d.c d.s d.v d.l d.t = some (key (toS d))) ∧ (key (toS d)).size ≤ 1000000) :
  Calls Tryz.prog 58 #[.slice A0 bs.length c0] w fun e w'=>∃ p,e = .returned (.tuple #[.pointer p,.int .i64 (parseR key bs).2]) ∧ ((parseR key bs).2 = 0 → SnR w' (.pointer p) (mapK key (parseR key bs).1)) ∧ ((parseR key bs).2 ≠ 0 → p = none) ∧ Below w.heap.size w w':=by
 have hu34:=Tryz.underlying34
 have HR:=As.mk hr
 have HC:=As.mk hc
 have HLEN:=As.mk (show bs.length ≤ 1000000 by omega)
 have HOK:=As.mk hok
 have HQ:=As.mk hq
 have HN:=As.mk hn
 have HN0:=As.mk h0
 have HO1:=As.mk ho1
 have HL1:=As.mk hl1
 have HINV:=As.mk hinv
 have HKEY:=As.mk hkey
 have z1 : decide ((500 : Int) < n) = false:=decide_eq_false hn
 have z2 : ((500 : Int) < n) = False:=eq_false hn
 clear hr hc hlen hok hq hn h0 ho1 hl1 hinv hkey
 go_enter Tryz.func58,Tryz.ntmps58
 go_upto_region 8 with (first | (go_at_call 95;(with_reducible refine (open_calls A0 c0 bs w HR.out HC.out HLEN.out).mono ?_);rintro e w1 ⟨gr,w0,rfl,hb0_,hI1,hB1⟩;have HW0:=As.mk hb0_;have HI:=As.mk hI1;have HB:=As.mk hB1;clear hb0_ hI1 hB1) | (go_at_call 96;(with_reducible refine (num_calls gr bs 0 HOK.out w0 _ HI.out HB.out).mono ?_);rintro e w2 ⟨rfl,hI1,hB1,_⟩;rw [HQ.out] at hI1;rw [HQ.out];dsimp only at hI1 ⊢;have n0_:=As.mk hI1;have n1_:=As.mk hB1;clear HI HB hI1 hB1;have HI:=n0_;have HB:=n1_;clear n0_ n1_) | (go_at_call 97;(with_reducible refine (err_calls gr b1 0 w0 _ HI.out HB.out).mono ?_);rintro e w3 ⟨rfl,hI1,hB1,_⟩;have n0_:=As.mk hI1;have n1_:=As.mk hB1;clear HI HB hI1 hB1;have HI:=n0_;have HB:=n1_;clear n0_ n1_) | ((with_reducible refine gate_dst (N:=25) rfl ?_);refine made_event rfl rfl ?_;intro bp w4 hbp hm hb hsz_;have HM:=As.mk hm;have HSZ:=As.mk hsz_;have HBP:=As.mk hbp;have HB34:=As.mk hb;clear hm hb hsz_ hbp))
 clear z1 z2
 have bk_:=blk_new w4 (Obj.cells #[.map (some bp)] 88)
 have hbb_:=bA HB34.out (Obj.cells #[.map (some bp)] 88)
 have hm2_:=HM.out.below (bA (Below.refl _ w4) (Obj.cells #[.map (some bp)] 88))
 have hi2_:=HI.out.below hbb_
 have hb2_:=HB.out.trans (hbb_.mono HB.out.size)
 have hgp_ : w3.heap.size ≤ w4.heap.size:=HB34.out.size
 obtain ⟨gp,hgp⟩ : ∃ gp,gp = w4.heap.size:=⟨_,rfl⟩
 rw [← hgp] at bk_ hgp_
 have HCZ:=As.mk (show (w4.alloc (Obj.cells #[.map (some bp)] 88)).cell? ⟨gp,0,none⟩ = some (.map (some bp)) from (bC bk_ 0).trans rfl)
 have HGR:=As.mk (show gr ≠ gp ∧ gr ≠ bp ∧ w0.heap.size ≤ bp from ⟨by have:=HI.out.lt;omega,by have:=HI.out.lt;have:=HBP.out;omega,by have:=HB.out.size;have:=HBP.out;omega⟩)
 rw [← hgp]
 generalize w4.alloc (Obj.cells #[.map (some bp)] 88) = W5 at HCZ hm2_ hi2_ hb2_ ⊢
 clear HM HB34 HSZ HBP HI HB bk_ hbb_ hgp_ hgp
 have HM:=As.mk hm2_
 have HI:=As.mk hi2_
 have HB:=As.mk hb2_
 clear hm2_ hi2_ hb2_
 go_wp2_with (fail)
 go_loopg [7,29] n.toNat (fun kq v7 v29 w'=>∃ (x : Nat) (b : List Int) (acc : List S34),v7 = .string (lastA key acc) ∧ v29 = .int .i64 (x : Int) ∧ x ≤ n.toNat ∧ As (kq + x = n.toNat) ∧ As (acc.length = x) ∧ As (parseL key n.toNat b1 [] = parseL key (n.toNat - x) b acc) ∧ As (OcR w0 w' gr b 0) ∧ As (BytesOk b) ∧ As (b.length ≤ 2000) ∧ As (Ris key acc) ∧ As (MapD w' bp (mapK key acc)) ∧ As (w'.cell? ⟨gp,0,none⟩ = some (.map (some bp))) ∧ As (Below w0.heap.size w0 w'))
 case atStart=>exact ⟨0,b1,[],rfl,rfl,Nat.zero_le _,⟨rfl⟩,⟨rfl⟩,⟨rfl⟩,HI,HO1,HL1,⟨List.Pairwise.nil⟩,HM,HCZ,HB⟩
 case round =>
  clear HI HM HCZ HB
  obtain ⟨x,b,acc,rfl,rfl,p1,HKQ,HAL,HPL,HI,HBO,HBL2,HRIS,HM,HCZ,HB⟩:=hrel
  by_cases hlt : (x : Int) < n
  case pos =>
   have c0_ : decide ((x : Int) < n) = true:=decide_eq_true hlt
   have c1_ : ((x : Int) < n) = True:=eq_true hlt
   have HX:=As.mk (show x < n.toNat ∧ n.toNat ≤ 500 from ⟨by omega,by have:=HN.out;omega⟩)
   have hw1 : wrap64 ((x : Int) + 1) = ((x + 1 : Nat) : Int):=by rw [IntWalk.wrap64_in _ (by have:=HX.out;omega)];omega
   have HBL:=As.mk (show b.length ≤ 100000 by have:=HBL2.out;omega)
   obtain ⟨m,hm⟩ : ∃ m,n.toNat - x = m + 1:=⟨n.toNat - x - 1,by omega⟩
   have hpl:=HPL.out
   rw [hm] at hpl
   have HMM:=As.mk hm
   obtain ⟨⟨kd,dc,ds,dv,dl,dt⟩,ed,b',e',hrd⟩ : ∃ d ed b' e',readR b 0 = (d,ed,b',e'):=⟨_,_,_,_,rfl⟩
   by_cases hed : ed = 0
   case neg=>as_aux_lemma =>
    have hpf:=hpl.trans (parseL_fell (key:=key) hrd hed)
    have HPR:=As.mk ((parseR_fell (key:=key) HQ.out (by have h_:=HN.out;omega) (by rw [hpf];exact hed)).trans (by rw [hpf]))
    have HRD:=As.mk hrd
    have HE:=As.mk hed
    have z1 : (ed != 0) = true:=bne_iff_ne.mpr hed
    clear hpf hpl hm hrd hed hlt
    go_wp2_with (first | (go_at_call 98;(with_reducible refine (read_calls gr b 0 HBO.out HBL.out w0 _ HI.out HB.out).mono ?_);rintro e w5 ⟨vv,rfl,hR5,hI1,hB1,hK1⟩;rw [HRD.out] at hI1 hR5;rw [HRD.out];dsimp only at hI1 hR5 ⊢;obtain ⟨A2,c2,rfl⟩:=Kd.R_slice hR5;have HR5:=As.mk hR5;have HK1:=As.mk hK1;have HKR:=As.mk (KpR.reader HI.out hK1);have n0_:=As.mk hI1;have n1_:=As.mk hB1;clear HI HB hI1 hB1;have HI:=n0_;have HB:=n1_;clear n0_ n1_;clear hR5 hK1))
    refine bodyPost_ret (results_tmp2 rfl _ _ _) rfl ?_
    rw [HPR.out]
    exact ⟨none,rfl,fun h_=>absurd h_ HE.out,fun _=>rfl,HW0.out.trans (((by repeat (first | (with_reducible first | exact HB.out | apply bA | apply bN | apply bD) | exact HB.out)) : Below w0.heap.size w0 _).mono HW0.out.size)⟩
   case pos =>
    subst hed
    obtain ⟨hbd,rfl⟩:=HINV.out b _ b' e' HBO.out hrd
    obtain ⟨⟨k,hk⟩,hks⟩:=HKEY.out b _ b' 0 HBO.out HBL2.out hrd
    have HBO2:=As.mk (show BytesOk b' from fun y hy=>HBO.out y (by rw [hbd];exact List.mem_append_right _ hy))
    have HBL3:=As.mk (show b'.length ≤ 2000 by have h1:=HBL2.out;have h2:=congrArg List.length hbd;rw [List.length_append] at h2;omega)
    obtain ⟨ky,hky⟩ : ∃ ky,ky = key (⟨kd,dc,ds,dv,dl,dt⟩ : S34):=⟨_,rfl⟩
    have hk : def_Key.f k kd dc ds dv dl dt = some ky:=by rw [hky];exact hk
    have HKY:=As.mk hk
    have HKS:=As.mk (show ky.size ≤ maxLen from Nat.le_trans (by rw [hky];exact hks) (by decide))
    have HKD:=As.mk hky
    have HRD:=As.mk hrd
    have HPLN:=As.mk hpl
    have HSZM:=As.mk (show Maps.size (mapK key acc) < maxLen by rw [size_mapK,HAL.out];have:=HX.out;simp only [maxLen];omega)
    clear hbd hk hks hky hrd hpl hm hlt
    go_upto_region 12 with (first | (go_at_call 98;(with_reducible refine (read_calls gr b 0 HBO.out HBL.out w0 _ HI.out HB.out).mono ?_);rintro e w5 ⟨vv,rfl,hR5,hI1,hB1,hK1⟩;rw [HRD.out] at hI1 hR5;rw [HRD.out];dsimp only at hI1 hR5 ⊢;obtain ⟨A2,c2,rfl⟩:=Kd.R_slice hR5;have HR5:=As.mk hR5;have HK1:=As.mk hK1;have HKR:=As.mk (KpR.reader HI.out hK1);have n0_:=As.mk hI1;have n1_:=As.mk hB1;clear HI HB hI1 hB1;have HI:=n0_;have HB:=n1_;clear n0_ n1_;clear hR5 hK1))
    have bk_:=blk_new w5 (Obj.cells #[.int .i64 kd,.string dc,.string ds,.slice A2 dv.length c2,.string dl,.string dt] 34)
    have hb_:=bA (Below.refl w5.heap.size w5) (Obj.cells #[.int .i64 kd,.string dc,.string ds,.slice A2 dv.length c2,.string dl,.string dt] 34)
    have HL2:=As.mk (Kd.R_reads' HR5.out).2.1
    have HC2:=As.mk (C_cells (Kd.R_reads' HR5.out).2.2 (.below hb_))
    have HM6:=As.mk ((HM.out.kp HKR.out (fun h_=>h_)).below hb_)
    have HCZ6:=As.mk (pC hb_ (HKR.out.cell _ _ HCZ.out rfl))
    have n0_:=As.mk (HI.out.below hb_)
    have n1_:=As.mk (HB.out.trans (hb_.mono HB.out.size))
    generalize w5.alloc (Obj.cells #[.int .i64 kd,.string dc,.string ds,.slice A2 dv.length c2,.string dl,.string dt] 34) = W6 at bk_ hb_ HC2 HM6 HCZ6 n0_ n1_ ⊢
    obtain ⟨gq,hgq⟩ : ∃ gq,gq = w5.heap.size:=⟨_,rfl⟩
    rw [← hgq] at bk_ ⊢
    clear hgq HI HB HM HCZ HR5 HKR HK1 hb_
    have HI:=n0_
    have HB:=n1_
    have BKQ:=As.mk bk_
    have HBQ:=As.mk (Below.refl W6.heap.size W6)
    clear n0_ n1_ bk_
    have hq_0 : W6.cell? ⟨gq,0,none⟩ = some (.int .i64 kd):=(bC (blk_below BKQ.out HBQ.out) 0).trans rfl
    have hq_1 : W6.cell? ⟨gq,1,none⟩ = some (.string dc):=(bC (blk_below BKQ.out HBQ.out) 1).trans rfl
    have hq_2 : W6.cell? ⟨gq,2,none⟩ = some (.string ds):=(bC (blk_below BKQ.out HBQ.out) 2).trans rfl
    have hq_3 : W6.cell? ⟨gq,3,none⟩ = some (.slice A2 dv.length c2):=(bC (blk_below BKQ.out HBQ.out) 3).trans rfl
    have hq_4 : W6.cell? ⟨gq,4,none⟩ = some (.string dl):=(bC (blk_below BKQ.out HBQ.out) 4).trans rfl
    have hq_5 : W6.cell? ⟨gq,5,none⟩ = some (.string dt):=(bC (blk_below BKQ.out HBQ.out) 5).trans rfl
    cases hlk : ltK (lastA key acc) ky with
    | false=>as_aux_lemma =>
     have hlk2 : Op.bytesLess (lastA key acc).toList ky.toList = false:=(ltK_less _ _).trans hlk
     have hpf:=HPLN.out.trans (parseL_order (key:=key) HRD.out (by have h_:=hlk;rw [HKD.out] at h_;exact h_))
     have HPR:=As.mk ((parseR_fell (key:=key) HQ.out (by have h_:=HN.out;omega) (by rw [hpf];show ¬ (32 : Int) = 0;decide)).trans (by rw [hpf]))
     clear hpf hlk
     go_wp2_with (first | (go_at_call 60;(with_reducible refine (def_Key.calls k kd dc ds A2 c2 dv dl dt ky _ ?s1 HL2.out HKY.out).mono ?_);(case s1=>exact C_cells HC2.out (.below (by repeat (first | (with_reducible first | exact HBQ.out | apply bA | apply bN | apply bD) | exact HBQ.out))));rintro e wk ⟨rfl,hb_⟩;have n0_:=As.mk (bS HBQ.out hb_);clear HBQ hb_ hq_0 hq_1 hq_2 hq_3 hq_4 hq_5;have HBQ:=n0_;clear n0_;have hq_0 : wk.cell? ⟨gq,0,none⟩ = some (.int .i64 kd):=(bC (blk_below BKQ.out HBQ.out) 0).trans rfl;have hq_1 : wk.cell? ⟨gq,1,none⟩ = some (.string dc):=(bC (blk_below BKQ.out HBQ.out) 1).trans rfl;have hq_2 : wk.cell? ⟨gq,2,none⟩ = some (.string ds):=(bC (blk_below BKQ.out HBQ.out) 2).trans rfl;have hq_3 : wk.cell? ⟨gq,3,none⟩ = some (.slice A2 dv.length c2):=(bC (blk_below BKQ.out HBQ.out) 3).trans rfl;have hq_4 : wk.cell? ⟨gq,4,none⟩ = some (.string dl):=(bC (blk_below BKQ.out HBQ.out) 4).trans rfl;have hq_5 : wk.cell? ⟨gq,5,none⟩ = some (.string dt):=(bC (blk_below BKQ.out HBQ.out) 5).trans rfl))
     refine bodyPost_ret (results_tmp2 rfl _ _ _) rfl ?_
     rw [HPR.out]
     exact ⟨none,rfl,fun h_=>absurd h_ (show ¬ (32 : Int) = 0 by decide),fun _=>rfl,HW0.out.trans ((HB.out.trans (((by repeat (first | (with_reducible first | exact HBQ.out | apply bA | apply bN | apply bD) | exact HBQ.out)) : Below W6.heap.size W6 _).mono HB.out.size)).mono HW0.out.size)⟩
    | true=>as_aux_lemma =>
     have hlk2 : Op.bytesLess (lastA key acc).toList ky.toList = true:=(ltK_less _ _).trans hlk
     have hlk3 : ltK (lastA key acc) (key (⟨kd,dc,ds,dv,dl,dt⟩ : S34)) = true:=by have h_:=hlk;rw [HKD.out] at h_;exact h_
     have HNX:=As.mk (HPLN.out.trans (parseL_next (key:=key) HRD.out hlk3))
     have HSN:=As.mk (ris_snoc HRIS.out hlk3)
     clear hlk hlk3
     go_upto_region 16 with (first | (go_at_call 60;(with_reducible refine (def_Key.calls k kd dc ds A2 c2 dv dl dt ky _ ?s1 HL2.out HKY.out).mono ?_);(case s1=>exact C_cells HC2.out (.below (by repeat (first | (with_reducible first | exact HBQ.out | apply bA | apply bN | apply bD) | exact HBQ.out))));rintro e wk ⟨rfl,hb_⟩;have n0_:=As.mk (bS HBQ.out hb_);clear HBQ hb_ hq_0 hq_1 hq_2 hq_3 hq_4 hq_5;have HBQ:=n0_;clear n0_;have hq_0 : wk.cell? ⟨gq,0,none⟩ = some (.int .i64 kd):=(bC (blk_below BKQ.out HBQ.out) 0).trans rfl;have hq_1 : wk.cell? ⟨gq,1,none⟩ = some (.string dc):=(bC (blk_below BKQ.out HBQ.out) 1).trans rfl;have hq_2 : wk.cell? ⟨gq,2,none⟩ = some (.string ds):=(bC (blk_below BKQ.out HBQ.out) 2).trans rfl;have hq_3 : wk.cell? ⟨gq,3,none⟩ = some (.slice A2 dv.length c2):=(bC (blk_below BKQ.out HBQ.out) 3).trans rfl;have hq_4 : wk.cell? ⟨gq,4,none⟩ = some (.string dl):=(bC (blk_below BKQ.out HBQ.out) 4).trans rfl;have hq_5 : wk.cell? ⟨gq,5,none⟩ = some (.string dt):=(bC (blk_below BKQ.out HBQ.out) 5).trans rfl))
     have hbd_ : Below W6.heap.size W6 wk.drew:=bD HBQ.out
     clear hq_0 hq_1 hq_2 hq_3 hq_4 hq_5
     have n0_:=As.mk (HM6.out.below hbd_)
     have n1_:=As.mk (HI.out.below hbd_)
     have n2_:=As.mk (HB.out.trans (hbd_.mono HB.out.size))
     have HC6:=As.mk (C_cells HC2.out (.below hbd_))
     have hcz_0 : wk.drew.cell? ⟨gp,0,none⟩ = some (.map (some bp)):=pC hbd_ HCZ6.out
     have hq_0 : wk.drew.cell? ⟨gq,0,none⟩ = some (.int .i64 kd):=(bC (blk_below BKQ.out hbd_) 0).trans rfl
     have hq_1 : wk.drew.cell? ⟨gq,1,none⟩ = some (.string dc):=(bC (blk_below BKQ.out hbd_) 1).trans rfl
     have hq_2 : wk.drew.cell? ⟨gq,2,none⟩ = some (.string ds):=(bC (blk_below BKQ.out hbd_) 2).trans rfl
     have hq_3 : wk.drew.cell? ⟨gq,3,none⟩ = some (.slice A2 dv.length c2):=(bC (blk_below BKQ.out hbd_) 3).trans rfl
     have hq_4 : wk.drew.cell? ⟨gq,4,none⟩ = some (.string dl):=(bC (blk_below BKQ.out hbd_) 4).trans rfl
     have hq_5 : wk.drew.cell? ⟨gq,5,none⟩ = some (.string dt):=(bC (blk_below BKQ.out hbd_) 5).trans rfl
     clear HM6 HI HB HBQ hbd_
     have HM6:=n0_
     have HI:=n1_
     have HB:=n2_
     clear n0_ n1_ n2_
     refine start_ (n:=7) (S:=fun w'=>w'.cell? ⟨gp,0,none⟩ = some (.map (some bp)) ∧ w'.cell? ⟨gq,0,none⟩ = some (.int .i64 kd) ∧ w'.cell? ⟨gq,1,none⟩ = some (.string dc) ∧ w'.cell? ⟨gq,2,none⟩ = some (.string ds) ∧ w'.cell? ⟨gq,3,none⟩ = some (.slice A2 dv.length c2) ∧ w'.cell? ⟨gq,4,none⟩ = some (.string dl) ∧ w'.cell? ⟨gq,5,none⟩ = some (.string dt)) (ds:=[6]) #[false,false,false,false,false,false,false] (by kernel_rfl) rfl rfl ⟨hcz_0,hq_0,hq_1,hq_2,hq_3,hq_4,hq_5⟩ (fun hHeld=>?_);refine with_tabW snapparseg.tab16 snapparseg.bits16 (fun HT_ HW_=>?_)
     refine pure_ (i:=0) (N:=some 44) (v:=?_) (a':=?_) #[true,false,false,false,false,false,false] rfl rfl (any_of HT_.out (by kernel_rfl)) (fun _ _ _ h=>h) (Or.inl ⟨by rfl,?_⟩) ?_ ?_
     rotate_left
     ·intro w'
      go_simp
      with_reducible rfl
     rotate_left
     ·simp only [Act.put,List.setIfInBounds_toArray,List.set_cons_zero,List.set_cons_succ,i64_w,i32_w]
      rfl
     refine pure_ (i:=1) (N:=some 45) (v:=?_) (a':=?_) #[true,true,false,false,false,false,false] rfl rfl (any_of HT_.out (by kernel_rfl)) (fun _ _ _ h=>h) (Or.inl ⟨by rfl,?_⟩) ?_ ?_
     rotate_left
     ·intro w'
      go_simp
      with_reducible rfl
     rotate_left
     ·simp only [Act.put,List.setIfInBounds_toArray,List.set_cons_zero,List.set_cons_succ,i64_w,i32_w]
      rfl
     refine pure_ (i:=2) (N:=some 46) (v:=?_) (a':=?_) #[true,true,true,false,false,false,false] rfl rfl (any_of HT_.out (by kernel_rfl)) (fun _ _ _ h=>h) (Or.inl ⟨by rfl,?_⟩) ?_ ?_
     rotate_left
     ·intro w'
      go_simp
      with_reducible rfl
     rotate_left
     ·simp only [Act.put,List.setIfInBounds_toArray,List.set_cons_zero,List.set_cons_succ,i64_w,i32_w]
      rfl
     refine take_ (i:=3) (N:=some 47) (v:=?_) (a':=?_) #[true,true,true,true,false,false,false] rfl rfl (take_ofW HT_.out HW_.out (by kernel_rfl)) (fun _ _ _ h=>h) (Or.inl ⟨by rfl,?_⟩) hHeld ?_ ?_
     rotate_left
     ·rintro w' ⟨s0,s1,s2,s3,s4,s5,s6⟩
      go_simp
      with_reducible rfl
     rotate_left
     ·simp only [Act.put,List.setIfInBounds_toArray,List.set_cons_zero,List.set_cons_succ,i64_w,i32_w]
      rfl
     refine pure_ (i:=4) (N:=some 48) (v:=?_) (a':=?_) #[true,true,true,true,true,false,false] rfl rfl (any_of HT_.out (by kernel_rfl)) (fun _ _ _ h=>h) (Or.inl ⟨by rfl,?_⟩) ?_ ?_
     rotate_left
     ·intro w'
      go_simp
      with_reducible rfl
     rotate_left
     ·simp only [Act.put,List.setIfInBounds_toArray,List.set_cons_zero,List.set_cons_succ,i64_w,i32_w]
      rfl
     refine take_ (i:=5) (N:=some 49) (v:=?_) (a':=?_) #[true,true,true,true,true,true,false] rfl rfl (take_ofW HT_.out HW_.out (by kernel_rfl)) (fun _ _ _ h=>h) (Or.inl ⟨by rfl,?_⟩) hHeld ?_ ?_
     rotate_left
     ·rintro w' ⟨s0,s1,s2,s3,s4,s5,s6⟩
      go_simp
      with_reducible rfl
     rotate_left
     ·simp only [Act.put,List.setIfInBounds_toArray,List.set_cons_zero,List.set_cons_succ,i64_w,i32_w]
      rfl
     refine last_ (i:=6) (N:=none) #[true,true,true,true,true,true,true] rfl rfl (one_of HT_.out (by kernel_rfl)) (by decide) (fun K hK=>?_)
     refine put_step (by rfl) (.tmp 47) (.tmp 48) (.tmp 49) rfl bp (mapK key acc) ky (⟨kd,dc,ds,dv,dl,dt⟩ : S34) _ rfl rfl rfl HKS.out HM6.out HSZM.out ⟨A2,c2,rfl,HL2.out,HC6.out⟩ ?_
     intro w7 hm7 hg7 hk7
     refine hK.out _ _ ?_
     clear hK K
     refine done_ (done_of HT_.out (by kernel_rfl)) ?_
     go_wp2_with (fail)
     go_roundg (gk - 1)
     case measure=>have:=HKQ.out;have:=HX.out;omega
     case rel=>exact ⟨x + 1,b',acc ++ [(⟨kd,dc,ds,dv,dl,dt⟩ : S34)],by rw [last_snoc,HKD.out],(by first | rfl | rw [hw1]),HX.out.1,⟨by have:=HKQ.out;have:=HX.out;omega⟩,⟨by rw [List.length_append,List.length_singleton,HAL.out]⟩,⟨by rw [show n.toNat - (x + 1) = m by have:=HMM.out;omega];exact HNX.out⟩,⟨HI.out.grown' hg7 HGR.out.2.1⟩,HBO2,HBL3,⟨HSN.out.1⟩,⟨by rw [← HSN.out.2,← HKD.out];exact hm7⟩,⟨hk7 _ _ hcz_0⟩,⟨below_own HB.out HB.out.size hg7 HGR.out.2.2⟩⟩
  case neg =>
   have c0_ : decide ((x : Int) < n) = false:=decide_eq_false hlt
   have c1_ : ((x : Int) < n) = False:=eq_false hlt
   have hpl:=HPL.out
   rw [show n.toNat - x = 0 by omega] at hpl
   have hpl : parseL key n.toNat b1 [] = (acc,0,b):=hpl
   by_cases hb : b = []
   case pos=>as_aux_lemma =>
    subst hb
    have HPR:=As.mk ((parseR_good (key:=key) HQ.out (by have h_:=HN.out;omega) (by rw [hpl]) (by rw [hpl])).trans (by rw [hpl]))
    clear hpl hlt
    go_wp2_with (first | (go_at_call 99;(with_reducible refine (end_same gr w0 _ HI.out).mono ?_);rintro e we ⟨rfl,hw_⟩;rw [hw_]))
    refine bodyPost_ret (results_tmp2 rfl _ _ _) rfl ?_
    rw [HPR.out]
    exact ⟨some ⟨gp,0,none⟩,rfl,fun _=>⟨gp,bp,rfl,HCZ.out,HM.out⟩,fun h_=>absurd rfl h_,HW0.out.trans (HB.out.mono HW0.out.size)⟩
   case neg=>as_aux_lemma =>
    have HPR:=As.mk (parseR_rest (key:=key) HQ.out (by have h_:=HN.out;omega) (by rw [hpl]) (by rw [hpl];exact hb))
    have HBN:=As.mk hb
    clear hpl hlt hb
    go_wp2_with (first | (go_at_call 99;(with_reducible refine (end_rest gr b w0 _ HI.out HBN.out).mono ?_);rintro e we ⟨rfl,hw_⟩;rw [hw_]))
    refine bodyPost_ret (results_tmp2 rfl _ _ _) rfl ?_
    rw [HPR.out]
    exact ⟨none,rfl,fun h_=>absurd h_ (show ¬ (11 : Int) = 0 by decide),fun _=>rfl,HW0.out.trans (HB.out.mono HW0.out.size)⟩
end Go.Proofs.YtmlebgikdegjjaaGreatDoor.Hd
