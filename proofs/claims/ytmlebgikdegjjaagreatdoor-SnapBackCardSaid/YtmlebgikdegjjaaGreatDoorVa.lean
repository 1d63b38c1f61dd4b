/- octet.Open; snap.Parse of what is written of a snapshot. -/
import Derived.Test.YtmlebgikdegjjaaGreatDoorQx
import Derived.Test.YtmlebgikdegjjaaGreatDoorUv
import Derived.Test.YtmlebgikdegjjaaGreatDoorUy
import Derived.Test.YtmlebgikdegjjaaGreatDoorUx
import Derived.Test.YtmlebgikdegjjaaGreatDoorPAllx16
import Derived.Test.YtmlebgikdegjjaaGreatDoorPAllx2
set_option maxHeartbeats 16000000
set_option maxRecDepth 100000
namespace Go.Proofs.YtmlebgikdegjjaaGreatDoor.Hd
open Go.Maps Go.RowKit Go.Proofs.YtmlebgikdegjjaaGreatDoorW.PrintWords Go.Proofs.YtmlebgikdegjjaaGreatDoorW.PrintLast Go.Proofs.YtmlebgikdegjjaaGreatDoorW.PrintMore Go.Proofs.YtmlebgikdegjjaaGreatDoor.PAll
attribute [local go_sem] max2_int min2_int max_two min_two max_three min_three max_four min_four
set_option linter.unusedVariables false
set_option linter.unusedSimpArgs false
theorem open_calls (A0 : Option Addr) (c0 : Nat) (l : List Int) (w : World) (hr : Kd.C (Kd.int .u8) w A0 l.length l) (hc : l.length ≤ c0) (hl : l.length ≤ 1000000) :
  Calls Tryz.prog 95 #[.slice A0 l.length c0] w fun r w'=>∃ g w0,r = .returned (.pointer (some ⟨g,0,none⟩)) ∧ Below w.heap.size w w0 ∧ OcR w0 w' g l 0 ∧ Below w0.heap.size w0 w':=by
 have HR:=As.mk hr
 have HC:=As.mk hc
 have HCL:=As.mk (show bytes_Clone.f l = some l by unfold bytes_Clone.f;rw [if_pos (by omega)])
 clear hr hc hl
 go_enter Tryz.func95,Tryz.ntmps95
 go_wp2_with (first | ((with_reducible refine gate_dst (N:=6) rfl ?_);refine box_event ?hg (N:=6) ?hd (cs:=#[.slice Ad l.length cp,.int .i64 0]) (t:=159) ?hr ?_;(case hd=>rfl);(case hg=>rfl);(case hr=>first | (go_simp;done) | (go_simp;rfl));intro g hg w2 hbox hb;have HBX:=As.mk hbox;have HGX:=As.mk hg;have n0_:=As.mk (bS HB.out hb);clear HB hbox hb hg;have HB:=n0_;clear n0_) | (go_at_call 120;(with_reducible refine (bytes_Clone.calls A0 c0 l l _ HR.out HC.out HCL.out).mono ?_);rintro er w1 ⟨vv,rfl,hO1,hb1⟩;obtain ⟨Ad,cp,rfl,hlv,hCv⟩:=Kd.R_reads hO1;have HCv:=As.mk hCv;have HLv:=As.mk hlv;have HBC:=As.mk hb1;have HB:=As.mk (Below.refl w1.heap.size w1);clear hO1 hlv hCv hb1))
 go_ret
 exact ⟨g,w1,rfl,HBC.out,⟨Ad,cp,HBX.out,Nat.le_of_eq HGX.out.symm,HCv.out,HLv.out⟩,HB.out⟩
def snapparse.T16 : Bool × List (List Nat × List Nat):=(true,[([],[]),([0],[0]),([1],[1]),([2],[2]),([],[]),([],[]),([3,4,5,0,1,2,3,4,5],[3,4,5])])
def snapparse.B16 : List Nat:=[0,1,3,7,0,0,63]
theorem snapparse.tab16 : rtab .any (opsOf Tryz.f58 16) = snapparse.T16:=by kernel_rfl
theorem snapparse.bits16 : waitsOk snapparse.T16.2 snapparse.B16 = true:=by kernel_rfl
theorem putL_last {key : S34 → ByteArray} {d : S34} : ∀ {l : List S34},(∀ y ∈ l,ltK (key y) (key d) = true) → putL key d l false = l ++ [d]
 | [],_=>rfl
 | x :: l,h=>by
  have h1:=h x (List.mem_cons_self ..)
  unfold putL
  rw [h1,if_neg (by simp),if_neg (ltK_ne h1),show (false || !true) = false from rfl,putL_last fun y hy=>h y (List.mem_cons_of_mem _ hy)]
  rfl
theorem take_ris {key : S34 → ByteArray} {out : List S34} (hr : Ris key out) {x : Nat} (hx : x < out.length) : (mapK key (out.take x)).put (KL (key out[x])) (.held out[x]) = mapK key (out.take (x + 1)) ∧ Ris key (out.take x):=by
 have h1 : Ris key (out.take x):=hr.sublist (List.take_sublist _ _)
 refine ⟨?_,h1⟩
 rw [put_mapK _ h1,putL_last fun y hy=>?_,List.take_succ_eq_append_getElem hx]
 obtain ⟨i,hi,rfl⟩:=List.getElem_of_mem hy
 rw [List.getElem_take]
 rw [List.length_take] at hi
 exact List.pairwise_iff_getElem.1 hr i x (by omega) hx (by omega)
def lastK (key : S34 → ByteArray) (out : List S34) : Nat → ByteArray
 | 0=>⟨#[]⟩
 | x + 1=>(out[x]?.map key).getD ⟨#[]⟩
theorem last_lt {key : S34 → ByteArray} {out : List S34} (hr : Ris key out) (hne : ∀ d ∈ out,0 < (key d).size) {x : Nat} (hx : x < out.length) : Op.bytesLess (lastK key out x).toList (key out[x]).toList = true:=by
 rw [ltK_less]
 cases x with
 | zero =>
  have h1:=hne _ (List.getElem_mem hx)
  show bytesBefore ([] : List UInt8) (key out[0]).data.toList = true
  cases hl : (key out[0]).data.toList with
  | nil =>
   have h2 : (key out[0]).data.toList.length = 0:=by rw [hl];rfl
   rw [Array.length_toList] at h2
   have h3 : (key out[0]).size = 0:=h2
   omega
  | cons a l=>rfl
 | succ x =>
  have h1 : lastK key out (x + 1) = key out[x]:=by
   show (out[x]?.map key).getD _ = _
   rw [List.getElem?_eq_getElem (by omega)]
   rfl
  rw [h1]
  exact List.pairwise_iff_getElem.1 hr x (x + 1) (by omega) hx (by omega)
theorem OcR.grown' {w0 W w1 : World} {g b : Nat} {bs : List Int} {e : Int} (h : OcR w0 W g bs e) (hg : W.grownBy w1 (some b)) (hne : g ≠ b) : OcR w0 w1 g bs e:=by
 obtain ⟨Ad,c,h1,h2⟩:=h
 exact ⟨Ad,c,(hg.block g (blk_lt h1) (fun e=>hne (Option.some.inj e))).trans h1,h2⟩
theorem KpR.reader {w0 w w' : World} {g : Nat} {bs : List Int} {e : Int} (h : OcR w0 w g bs e) (hk : KeepBut w w' g none) : KpR (fun _=>False) w w':=by
 obtain ⟨Ad,c,h1,_⟩:=h
 have hne : ∀ a v,w.cell? a = some v → keepV v = true → a.block ≠ g:=fun a v hc hv e_=>by
  unfold World.cell? at hc
  rw [e_,h1] at hc
  have h2 : ([Value.slice Ad bs.length c,.int .i64 e] : List Value)[a.off]? = some v:=(show a.spot = none ∧ ([Value.slice Ad bs.length c,.int .i64 e] : List Value)[a.off]? = some v by simpa using hc).2
  have h3 : v = .slice Ad bs.length c ∨ v = .int .i64 e:=by
   rcases Nat.lt_or_ge a.off 2 with hlt | hge
   ·have : a.off = 0 ∨ a.off = 1:=by omega
    rcases this with h4 | h4 <;> rw [h4] at h2 <;> injection h2 with h2
    ·exact Or.inl h2.symm
    ·exact Or.inr h2.symm
   ·rw [List.getElem?_eq_none (by simpa using hge)] at h2
    cases h2
  rcases h3 with rfl | rfl <;> cases hv
 refine ⟨hk.1,fun a v hc hv=>?_,fun i es c' hi _=>(hk.2 i (Array.getElem?_eq_some_iff.1 hi).1 (fun e_=>by rw [e_,h1] at hi;cases hi) (by simp)).trans hi⟩
 have hlt:=cell_lt hc
 have:=hk.2 a.block hlt (hne a v hc hv) (by simp)
 unfold World.cell? at hc ⊢
 rw [this]
 exact hc
theorem end_same (g : Nat) (w0 w : World) (hI : OcR w0 w g [] 0) : Calls Tryz.prog 99 #[.pointer (some ⟨g,0,none⟩)] w fun r w'=>r = .returned (.int .i64 0) ∧ w' = w:=by
 obtain ⟨Ad,cp,hg,hge,hC,hl⟩:=hI
 have hcz_0 : w.cell? ⟨g,0,none⟩ = some (.slice Ad 0 cp):=(bC hg 0).trans rfl
 have hcz_1 : w.cell? ⟨g,1,none⟩ = some (.int .i64 0):=(bC hg 1).trans rfl
 have hfz_0:=bF hg 0
 have hfz_1:=bF hg 1
 clear hg hge hC hl
 go_enter Tryz.func99,Tryz.ntmps99
 go_wp2_with (fail)
 go_ret
 exact ⟨rfl,rfl⟩
theorem parse_good (key : S34 → ByteArray) (k : Nat) (A0 : Option Addr) (c0 : Nat) (out : List S34) (w : World) (hr : Kd.C (Kd.int .u8) w A0 (snapO out).length (snapO out)) (hc : (snapO out).length ≤ c0) (hln : out.length ≤ 20) (hlen : (snapO out).length ≤ 100000) (hok : BytesOk (snapO out)) (hris : Ris key out)
  (hread : ∀ d ∈ out,∀ r,readR (defS d ++ r) 0 = (⟨d.f0,d.f1,d.f2,d.f3,d.f4,d.f5⟩,0,r,0)) (hq : numR (snapO out) 0 = ((out.length : Int),out.flatMap defS,0))
  (hkey : ∀ d ∈ out,def_Key.f k d.f0 d.f1 d.f2 d.f3 d.f4 d.f5 = some (key d) ∧ (key d).size ≤ 1000000 ∧ d.f3.length ≤ 1000000) (hne : ∀ d ∈ out,0 < (key d).size) :
  Calls Tryz.prog 58 #[.slice A0 (snapO out).length c0] w fun e w'=>∃ g,e = .returned (.tuple #[.pointer (some ⟨g,0,none⟩),.int .i64 0]) ∧ SnR w' (.pointer (some ⟨g,0,none⟩)) (mapK key out) ∧ Below w.heap.size w w':=by
 have hu34:=Tryz.underlying34
 have hsl : ∀ x,((out.drop x).flatMap defS).length ≤ (snapO out).length:=fun x=>by
  unfold snapO
  rw [List.length_append]
  have h1 : (out.flatMap defS).length = ((out.take x).flatMap defS).length + ((out.drop x).flatMap defS).length:=by rw [← List.length_append,← List.flatMap_append,List.take_append_drop]
  omega
 have hso : ∀ x,BytesOk ((out.drop x).flatMap defS):=fun x y hy=>by
  obtain ⟨d,hd,hy⟩:=List.mem_flatMap.1 hy
  exact hok y (List.mem_append_right _ (List.mem_flatMap.2 ⟨d,List.mem_of_mem_drop hd,hy⟩))
 have HSL:=As.mk hsl
 have HSO:=As.mk hso
 have HR:=As.mk hr
 have HC:=As.mk hc
 have HLEN:=As.mk (show (snapO out).length ≤ 1000000 by omega)
 have HLEN5:=As.mk hlen
 have HOK:=As.mk hok
 have HQ:=As.mk hq
 have HLN:=As.mk hln
 have HRIS:=As.mk hris
 have HREAD:=As.mk hread
 have HKEY:=As.mk hkey
 have HNE:=As.mk hne
 have cz_ : decide ((500 : Int) < (out.length : Int)) = false:=decide_eq_false (by omega)
 have cy_ : ((500 : Int) < (out.length : Int)) = False:=eq_false (by omega)
 clear hsl hso hr hc hln hlen hok hq hris hread hkey hne
 go_enter Tryz.func58,Tryz.ntmps58
 go_upto_region 8 with (first | (go_at_call 95;(with_reducible refine (open_calls A0 c0 (snapO out) w HR.out HC.out HLEN.out).mono ?_);rintro e w1 ⟨gr,w0,rfl,hb0_,hI1,hB1⟩;have HW0:=As.mk hb0_;have HI:=As.mk hI1;have HB:=As.mk hB1;clear hb0_ hI1 hB1) | (go_at_call 96;(with_reducible refine (num_calls gr (snapO out) 0 HOK.out w0 _ HI.out HB.out).mono ?_);rintro e w2 ⟨rfl,hI1,hB1,_⟩;rw [HQ.out] at hI1;rw [HQ.out];dsimp only at hI1 ⊢;have n0_:=As.mk hI1;have n1_:=As.mk hB1;clear HI HB hI1 hB1;have HI:=n0_;have HB:=n1_;clear n0_ n1_) | (go_at_call 97;(with_reducible refine (err_calls gr (out.flatMap defS) 0 w0 _ HI.out HB.out).mono ?_);rintro e w3 ⟨rfl,hI1,hB1,_⟩;have n0_:=As.mk hI1;have n1_:=As.mk hB1;clear HI HB hI1 hB1;have HI:=n0_;have HB:=n1_;clear n0_ n1_) | ((with_reducible refine gate_dst (N:=25) rfl ?_);refine made_event rfl rfl ?_;intro bp w4 hbp hm hb hsz_;have HM:=As.mk hm;have HSZ:=As.mk hsz_;have HBP:=As.mk hbp;have HB34:=As.mk hb;clear hm hb hsz_ hbp))
 clear cz_ cy_
 have bk_:=blk_new w4 (Obj.cells #[.map (some bp)] 88)
 have hbb_:=bA HB34.out (Obj.cells #[.map (some bp)] 88)
 have hm2_:=HM.out.below (bA (Below.refl _ w4) (Obj.cells #[.map (some bp)] 88))
 have hi2_:=HI.out.below hbb_
 have hb2_:=HB.out.trans (hbb_.mono HB.out.size)
 have hgp_ : w3.heap.size ≤ w4.heap.size:=HB34.out.size
 obtain ⟨gp,hgp⟩ : ∃ gp,gp = w4.heap.size:=⟨_,rfl⟩
 rw [← hgp] at bk_ hgp_
 have HCZ:=As.mk (show (w4.alloc (Obj.cells #[.map (some bp)] 88)).cell? ⟨gp,0,none⟩ = some (.map (some bp)) from (bC bk_ 0).trans rfl)
 have HGR:=As.mk (show gr ≠ gp ∧ gr ≠ bp ∧ w0.heap.size ≤ bp from ⟨by have:=HI.out.lt;omega,by have:=HI.out.lt;have:=HBP.out;omega,by have:=HB.out.size;have:=HBP.out;omega⟩)
 rw [← hgp]
 generalize w4.alloc (Obj.cells #[.map (some bp)] 88) = W5 at HCZ hm2_ hi2_ hb2_ ⊢
 clear HM HB34 HSZ HBP HI HB bk_ hbb_ hgp_ hgp
 have HM:=As.mk hm2_
 have HI:=As.mk hi2_
 have HB:=As.mk hb2_
 clear hm2_ hi2_ hb2_
 go_wp2_with (fail)
 go_loopg [7,29] out.length (fun kq v7 v29 w'=>∃ (x : Nat),v7 = .string (lastK key out x) ∧ v29 = .int .i64 (x : Int) ∧ x ≤ out.length ∧ As (kq + x = out.length) ∧ As (OcR w0 w' gr ((out.drop x).flatMap defS) 0) ∧ As (MapD w' bp (mapK key (out.take x))) ∧ As (w'.cell? ⟨gp,0,none⟩ = some (.map (some bp))) ∧ As (Below w0.heap.size w0 w'))
 case atStart=>exact ⟨0,rfl,rfl,Nat.zero_le _,⟨rfl⟩,HI,HM,HCZ,HB⟩
 case round =>
  clear HI HM HCZ HB
  obtain ⟨x,rfl,rfl,p1,HKQ,HI,HM,HCZ,HB⟩:=hrel
  by_cases hlt : x < out.length
  case pos =>
   have c0_ : decide ((x : Int) < (out.length : Int)) = true:=decide_eq_true (by omega)
   have c1_ : ((x : Int) < (out.length : Int)) = True:=eq_true (by omega)
   have c2_ : (x < out.length) = True:=eq_true hlt
   have HX:=As.mk (show x < out.length ∧ out.length ≤ 20 from ⟨hlt,HLN.out⟩)
   have hw1 : wrap64 ((x : Int) + 1) = ((x + 1 : Nat) : Int):=by rw [IntWalk.wrap64_in _ (by have:=HLN.out;omega)];omega
   obtain ⟨d,hd⟩ : ∃ d,d = out[x]:=⟨_,rfl⟩
   have hmem : d ∈ out:=by rw [hd];exact List.getElem_mem hlt
   have HRD:=As.mk (HREAD.out d hmem ((out.drop (x + 1)).flatMap defS))
   have HKY:=As.mk (HKEY.out d hmem).1
   have HKS:=As.mk (show (key d).size ≤ maxLen from Nat.le_trans (HKEY.out d hmem).2.1 (by decide))
   have HDR:=As.mk (show (out.drop x).flatMap defS = defS d ++ (out.drop (x + 1)).flatMap defS by rw [List.drop_eq_getElem_cons hlt,← hd,List.flatMap_cons])
   have HBO:=As.mk (show BytesOk (defS d ++ (out.drop (x + 1)).flatMap defS) by rw [← HDR.out];exact HSO.out x)
   have HBL:=As.mk (show (defS d ++ (out.drop (x + 1)).flatMap defS).length ≤ 100000 by rw [← HDR.out];exact Nat.le_trans (HSL.out x) HLEN5.out)
   have hlk:=last_lt HRIS.out HNE.out hlt
   rw [← hd] at hlk
   have HTR:=As.mk (take_ris HRIS.out hlt)
   have hlx : lastK key out (x + 1) = key d:=by
    show (out[x]?.map key).getD _ = _
    rw [List.getElem?_eq_getElem hlt,hd]
    rfl
   have HLX:=As.mk hlx
   have HTR2:=As.mk (show (mapK key (out.take x)).put (KL (key d)) (.held d) = mapK key (out.take (x + 1)) by rw [hd];exact HTR.out.1)
   have HSZM:=As.mk (show Maps.size (mapK key (out.take x)) < maxLen by rw [size_mapK,List.length_take];have:=HX.out;simp only [maxLen];omega)
   have n0_:=As.mk (show OcR w0 wr gr (defS d ++ (out.drop (x + 1)).flatMap defS) 0 by rw [← HDR.out];exact HI.out)
   clear HI HTR hlx hd hmem hlt
   have HI:=n0_
   clear n0_
   go_upto_region 12 with (first | (go_at_call 98;(with_reducible refine (read_calls gr (defS d ++ (out.drop (x + 1)).flatMap defS) 0 HBO.out HBL.out w0 _ HI.out HB.out).mono ?_);rintro e w5 ⟨vv,rfl,hR5,hI1,hB1,hK1⟩;rw [HRD.out] at hI1 hR5;rw [HRD.out];dsimp only at hI1 hR5 ⊢;obtain ⟨A2,c2,rfl⟩:=Kd.R_slice hR5;have HR5:=As.mk hR5;have HK1:=As.mk hK1;have HKR:=As.mk (KpR.reader HI.out hK1);have n0_:=As.mk hI1;have n1_:=As.mk hB1;clear HI HB hI1 hB1;have HI:=n0_;have HB:=n1_;clear n0_ n1_;clear hR5 hK1))
   have bk_:=blk_new w5 (Obj.cells #[.int .i64 d.f0,.string d.f1,.string d.f2,.slice A2 d.f3.length c2,.string d.f4,.string d.f5] 34)
   have hb_:=bA (Below.refl w5.heap.size w5) (Obj.cells #[.int .i64 d.f0,.string d.f1,.string d.f2,.slice A2 d.f3.length c2,.string d.f4,.string d.f5] 34)
   have HL2:=As.mk (Kd.R_reads' HR5.out).2.1
   have HC2:=As.mk (C_cells (Kd.R_reads' HR5.out).2.2 (.below hb_))
   have HM6:=As.mk ((HM.out.kp HKR.out (fun h_=>h_)).below hb_)
   have HCZ6:=As.mk (pC hb_ (HKR.out.cell _ _ HCZ.out rfl))
   have n0_:=As.mk (HI.out.below hb_)
   have n1_:=As.mk (HB.out.trans (hb_.mono HB.out.size))
   generalize w5.alloc (Obj.cells #[.int .i64 d.f0,.string d.f1,.string d.f2,.slice A2 d.f3.length c2,.string d.f4,.string d.f5] 34) = W6 at bk_ hb_ HC2 HM6 HCZ6 n0_ n1_ ⊢
   obtain ⟨gq,hgq⟩ : ∃ gq,gq = w5.heap.size:=⟨_,rfl⟩
   rw [← hgq] at bk_ ⊢
   clear hgq HI HB HM HCZ HR5 HKR HK1 hb_
   have HI:=n0_
   have HB:=n1_
   have BKQ:=As.mk bk_
   have HBQ:=As.mk (Below.refl W6.heap.size W6)
   clear n0_ n1_ bk_
   have hq_0 : W6.cell? ⟨gq,0,none⟩ = some (.int .i64 d.f0):=(bC (blk_below BKQ.out HBQ.out) 0).trans rfl
   have hq_1 : W6.cell? ⟨gq,1,none⟩ = some (.string d.f1):=(bC (blk_below BKQ.out HBQ.out) 1).trans rfl
   have hq_2 : W6.cell? ⟨gq,2,none⟩ = some (.string d.f2):=(bC (blk_below BKQ.out HBQ.out) 2).trans rfl
   have hq_3 : W6.cell? ⟨gq,3,none⟩ = some (.slice A2 d.f3.length c2):=(bC (blk_below BKQ.out HBQ.out) 3).trans rfl
   have hq_4 : W6.cell? ⟨gq,4,none⟩ = some (.string d.f4):=(bC (blk_below BKQ.out HBQ.out) 4).trans rfl
   have hq_5 : W6.cell? ⟨gq,5,none⟩ = some (.string d.f5):=(bC (blk_below BKQ.out HBQ.out) 5).trans rfl
   go_upto_region 16 with (first | (go_at_call 60;(with_reducible refine (def_Key.calls k d.f0 d.f1 d.f2 A2 c2 d.f3 d.f4 d.f5 (key d) _ ?s1 HL2.out HKY.out).mono ?_);(case s1=>exact C_cells HC2.out (.below (by repeat (first | (with_reducible first | exact HBQ.out | apply bA | apply bN | apply bD) | exact HBQ.out))));rintro e wk ⟨rfl,hb_⟩;have n0_:=As.mk (bS HBQ.out hb_);clear HBQ hb_ hq_0 hq_1 hq_2 hq_3 hq_4 hq_5;have HBQ:=n0_;clear n0_;have hq_0 : wk.cell? ⟨gq,0,none⟩ = some (.int .i64 d.f0):=(bC (blk_below BKQ.out HBQ.out) 0).trans rfl;have hq_1 : wk.cell? ⟨gq,1,none⟩ = some (.string d.f1):=(bC (blk_below BKQ.out HBQ.out) 1).trans rfl;have hq_2 : wk.cell? ⟨gq,2,none⟩ = some (.string d.f2):=(bC (blk_below BKQ.out HBQ.out) 2).trans rfl;have hq_3 : wk.cell? ⟨gq,3,none⟩ = some (.slice A2 d.f3.length c2):=(bC (blk_below BKQ.out HBQ.out) 3).trans rfl;have hq_4 : wk.cell? ⟨gq,4,none⟩ = some (.string d.f4):=(bC (blk_below BKQ.out HBQ.out) 4).trans rfl;have hq_5 : wk.cell? ⟨gq,5,none⟩ = some (.string d.f5):=(bC (blk_below BKQ.out HBQ.out) 5).trans rfl))
   have hbd_ : Below W6.heap.size W6 wk.drew:=bD HBQ.out
   clear hq_0 hq_1 hq_2 hq_3 hq_4 hq_5
   have n0_:=As.mk (HM6.out.below hbd_)
   have n1_:=As.mk (HI.out.below hbd_)
   have n2_:=As.mk (HB.out.trans (hbd_.mono HB.out.size))
   have HC6:=As.mk (C_cells HC2.out (.below hbd_))
   have hcz_0 : wk.drew.cell? ⟨gp,0,none⟩ = some (.map (some bp)):=pC hbd_ HCZ6.out
   have hq_0 : wk.drew.cell? ⟨gq,0,none⟩ = some (.int .i64 d.f0):=(bC (blk_below BKQ.out hbd_) 0).trans rfl
   have hq_1 : wk.drew.cell? ⟨gq,1,none⟩ = some (.string d.f1):=(bC (blk_below BKQ.out hbd_) 1).trans rfl
   have hq_2 : wk.drew.cell? ⟨gq,2,none⟩ = some (.string d.f2):=(bC (blk_below BKQ.out hbd_) 2).trans rfl
   have hq_3 : wk.drew.cell? ⟨gq,3,none⟩ = some (.slice A2 d.f3.length c2):=(bC (blk_below BKQ.out hbd_) 3).trans rfl
   have hq_4 : wk.drew.cell? ⟨gq,4,none⟩ = some (.string d.f4):=(bC (blk_below BKQ.out hbd_) 4).trans rfl
   have hq_5 : wk.drew.cell? ⟨gq,5,none⟩ = some (.string d.f5):=(bC (blk_below BKQ.out hbd_) 5).trans rfl
   clear HM6 HI HB HBQ hbd_
   have HM6:=n0_
   have HI:=n1_
   have HB:=n2_
   clear n0_ n1_ n2_
   refine start_ (n:=7) (S:=fun w'=>w'.cell? ⟨gp,0,none⟩ = some (.map (some bp)) ∧ w'.cell? ⟨gq,0,none⟩ = some (.int .i64 d.f0) ∧ w'.cell? ⟨gq,1,none⟩ = some (.string d.f1) ∧ w'.cell? ⟨gq,2,none⟩ = some (.string d.f2) ∧ w'.cell? ⟨gq,3,none⟩ = some (.slice A2 d.f3.length c2) ∧ w'.cell? ⟨gq,4,none⟩ = some (.string d.f4) ∧ w'.cell? ⟨gq,5,none⟩ = some (.string d.f5)) (ds:=[6]) #[false,false,false,false,false,false,false] (by kernel_rfl) rfl rfl ⟨hcz_0,hq_0,hq_1,hq_2,hq_3,hq_4,hq_5⟩ (fun hHeld=>?_);refine with_tabW snapparse.tab16 snapparse.bits16 (fun HT_ HW_=>?_)
   refine pure_ (i:=0) (N:=some 44) (v:=?_) (a':=?_) #[true,false,false,false,false,false,false] rfl rfl (any_of HT_.out (by kernel_rfl)) (fun _ _ _ h=>h) (Or.inl ⟨by rfl,?_⟩) ?_ ?_
   rotate_left
   ·intro w'
    go_simp
    with_reducible rfl
   rotate_left
   ·simp only [Act.put,List.setIfInBounds_toArray,List.set_cons_zero,List.set_cons_succ,i64_w,i32_w]
    rfl
   refine pure_ (i:=1) (N:=some 45) (v:=?_) (a':=?_) #[true,true,false,false,false,false,false] rfl rfl (any_of HT_.out (by kernel_rfl)) (fun _ _ _ h=>h) (Or.inl ⟨by rfl,?_⟩) ?_ ?_
   rotate_left
   ·intro w'
    go_simp
    with_reducible rfl
   rotate_left
   ·simp only [Act.put,List.setIfInBounds_toArray,List.set_cons_zero,List.set_cons_succ,i64_w,i32_w]
    rfl
   refine pure_ (i:=2) (N:=some 46) (v:=?_) (a':=?_) #[true,true,true,false,false,false,false] rfl rfl (any_of HT_.out (by kernel_rfl)) (fun _ _ _ h=>h) (Or.inl ⟨by rfl,?_⟩) ?_ ?_
   rotate_left
   ·intro w'
    go_simp
    with_reducible rfl
   rotate_left
   ·simp only [Act.put,List.setIfInBounds_toArray,List.set_cons_zero,List.set_cons_succ,i64_w,i32_w]
    rfl
   refine take_ (i:=3) (N:=some 47) (v:=?_) (a':=?_) #[true,true,true,true,false,false,false] rfl rfl (take_ofW HT_.out HW_.out (by kernel_rfl)) (fun _ _ _ h=>h) (Or.inl ⟨by rfl,?_⟩) hHeld ?_ ?_
   rotate_left
   ·rintro w' ⟨s0,s1,s2,s3,s4,s5,s6⟩
    go_simp
    with_reducible rfl
   rotate_left
   ·simp only [Act.put,List.setIfInBounds_toArray,List.set_cons_zero,List.set_cons_succ,i64_w,i32_w]
    rfl
   refine pure_ (i:=4) (N:=some 48) (v:=?_) (a':=?_) #[true,true,true,true,true,false,false] rfl rfl (any_of HT_.out (by kernel_rfl)) (fun _ _ _ h=>h) (Or.inl ⟨by rfl,?_⟩) ?_ ?_
   rotate_left
   ·intro w'
    go_simp
    with_reducible rfl
   rotate_left
   ·simp only [Act.put,List.setIfInBounds_toArray,List.set_cons_zero,List.set_cons_succ,i64_w,i32_w]
    rfl
   refine take_ (i:=5) (N:=some 49) (v:=?_) (a':=?_) #[true,true,true,true,true,true,false] rfl rfl (take_ofW HT_.out HW_.out (by kernel_rfl)) (fun _ _ _ h=>h) (Or.inl ⟨by rfl,?_⟩) hHeld ?_ ?_
   rotate_left
   ·rintro w' ⟨s0,s1,s2,s3,s4,s5,s6⟩
    go_simp
    with_reducible rfl
   rotate_left
   ·simp only [Act.put,List.setIfInBounds_toArray,List.set_cons_zero,List.set_cons_succ,i64_w,i32_w]
    rfl
   refine last_ (i:=6) (N:=none) #[true,true,true,true,true,true,true] rfl rfl (one_of HT_.out (by kernel_rfl)) (by decide) (fun K hK=>?_)
   refine put_step (by rfl) (.tmp 47) (.tmp 48) (.tmp 49) rfl bp (mapK key (out.take x)) (key d) d _ rfl rfl rfl HKS.out HM6.out HSZM.out ⟨A2,c2,rfl,HL2.out,HC6.out⟩ ?_
   intro w7 hm7 hg7 hk7
   refine hK.out _ _ ?_
   clear hK K
   refine done_ (done_of HT_.out (by kernel_rfl)) ?_
   go_wp2_with (fail)
   go_roundg (gk - 1)
   case measure=>have:=HKQ.out;have:=HX.out;omega
   case rel=>exact ⟨x + 1,congrArg Value.string HLX.out.symm,(by first | rfl | rw [hw1]),HX.out.1,⟨by have:=HKQ.out;have:=HX.out;omega⟩,⟨HI.out.grown' hg7 HGR.out.2.1⟩,⟨by rw [← HTR2.out];exact hm7⟩,⟨hk7 _ _ hcz_0⟩,⟨below_own HB.out HB.out.size hg7 HGR.out.2.2⟩⟩
  case neg =>
   have c0_ : decide ((x : Int) < (out.length : Int)) = false:=decide_eq_false (by omega)
   have c1_ : ((x : Int) < (out.length : Int)) = False:=eq_false (by omega)
   have c2_ : (x < out.length) = False:=eq_false hlt
   obtain rfl : x = out.length:=by omega
   have hi_:=HI.out
   rw [List.drop_length] at hi_
   have HIE:=As.mk (show OcR w0 wr gr [] 0 from hi_)
   have hm_:=HM.out
   rw [List.take_length] at hm_
   have HME:=As.mk hm_
   clear hi_ hm_
   go_wp2_with (first | (go_at_call 99;(with_reducible refine (end_same gr w0 _ HIE.out).mono ?_);rintro e we ⟨rfl,hw_⟩;rw [hw_]))
   refine bodyPost_ret (results_tmp2 rfl _ _ _) rfl ?_
   exact ⟨gp,rfl,⟨gp,bp,rfl,HCZ.out,HME.out⟩,HW0.out.trans (HB.out.mono HW0.out.size)⟩
end Go.Proofs.YtmlebgikdegjjaaGreatDoor.Hd
