/- Snap.Write: the octets of a snapshot. -/
import Derived.Test.YtmlebgikdegjjaaGreatDoorUc
import Derived.Test.YtmlebgikdegjjaaGreatDoorRr
import Derived.Test.YtmlebgikdegjjaaGreatDoorQx
import Derived.Test.YtmlebgikdegjjaaGreatDoorUd
set_option maxHeartbeats 16000000
set_option maxRecDepth 100000
namespace Go.Proofs.YtmlebgikdegjjaaGreatDoor.Hd
open Go.Maps Go.RowKit Go.Proofs.YtmlebgikdegjjaaGreatDoor.Rq Go.Proofs.YtmlebgikdegjjaaGreatDoor.Rr Go.Proofs.YtmlebgikdegjjaaGreatDoorW.PrintWords Go.Proofs.YtmlebgikdegjjaaGreatDoorW.PrintLast Go.Proofs.YtmlebgikdegjjaaGreatDoorW.PrintMore Go.Proofs.YtmlebgikdegjjaaGreatDoor.PAll
attribute [local go_sem] max2_int min2_int max_two min_two max_three min_three max_four min_four
set_option linter.unusedVariables false
set_option linter.unusedSimpArgs false
attribute [local go_sem] Oper.semAt_some
/-- What a round keeps that writes: what is older than B,and the blocks of other types than an octet's,but the writer's. -/
structure KpT (B g : Nat) (W W' : World) : Prop where
 size : W.heap.size ≤ W'.heap.size
 old : ∀ k,k < B → k < W.heap.size → W'.heap[k]? = W.heap[k]?
 typed : ∀ i c t,W.heap[i]? = some (.cells c t (0,0)) → t ≠ 5 → i ≠ g → W'.heap[i]? = some (.cells c t (0,0))
theorem KpT.trans {B g : Nat} {a b c : World} (h : KpT B g a b) (k : KpT B g b c) : KpT B g a c:=⟨Nat.le_trans h.size k.size,fun i hi hl=>(k.old i hi (Nat.lt_of_lt_of_le hl h.size)).trans (h.old i hi hl),fun i c t hi ht hg=>k.typed i c t (h.typed i c t hi ht hg) ht hg⟩
theorem KpT.below {B g : Nat} {W W' : World} (h : Below W.heap.size W W') : KpT B g W W':=⟨h.size,fun k _ hl=>h.block k hl,fun i c t hi _ _=>blk_below hi h⟩
theorem KpT.book {B g : Nat} (W : World) (l : Nat) (o o' : Obj) (hB : B ≤ l) (h : W.heap[l]? = some o) (hc : o.isCells = false) : KpT B g W (W.putObj l o') :=
 ⟨by simp,fun k hk _=>World.putObj_heap_other (by omega),fun i c t hi _ _=>(World.putObj_heap_other (fun e=>by
  rw [e,h] at hi
  cases hi
  cases hc)).trans hi⟩
theorem KpT.of {B g : Nat} {w0 W W' : World} (hB : B = w0.heap.size) (h0 : Below w0.heap.size w0 W) (h1 : Below w0.heap.size w0 W') (h : KeepT g W W') : KpT B g W W' :=
 ⟨h.1,fun k hk _=>(h1.block k (by omega)).trans (h0.block k (by omega)).symm,fun i c t hi ht hg=>h.2 i _ hi hg (fun c' e=>by
  injection e with _ e2
  exact ht e2)⟩
theorem KpR.old {w w' : World} (hs : w.heap.size ≤ w'.heap.size) (h : ∀ k,k < w.heap.size → w'.heap[k]? = w.heap[k]?) : KpR (fun _=>False) w w' :=
 ⟨hs,fun a v hc _=>by
  have hlt:=cell_lt hc
  unfold World.cell? at hc ⊢
  rw [h _ hlt]
  exact hc,fun k es c hk _=>(h k (Array.getElem?_eq_some_iff.1 hk).1).trans hk⟩
theorem ad_block (a : Addr) (i : Nat) : (a.add i).block = a.block:=by unfold Addr.add;split <;> rfl
theorem cell_block {w w' : World} {a : Addr} {v : Value} {o : Obj} (hc : w.cell? a = some v) (h1 : w.heap[a.block]? = some o) (h2 : w'.heap[a.block]? = some o) : w'.cell? a = some v:=by
 unfold World.cell? at hc ⊢
 rw [h1] at hc
 rw [h2]
 exact hc
theorem sorted_typed (w : World) (b : Nat) (M : DataW S34) (h : MapD w b M) (hz : Maps.size M ≤ 1000) :
  CallsIn Fence.wide 5 Tryz.prog 93 #[.func (.func 139) #[] #[.pointer (some ⟨w.heap.size,0,none⟩)]] (w.alloc (.cells #[.map (some b)] 86)) fun e w'=>∃ Ak ck,e = .returned (.slice Ak (keysM M).length ck) ∧ Kd.string.C w' Ak (keysM M).length (keysM M) ∧ (∀ ad,Ak = some ad → (∃ cur,w'.heap[ad.block]? = some (.cells cur 9 (0,0))) ∧ w.heap.size ≤ ad.block) ∧ Below (w.alloc (.cells #[.map (some b)] 86)).heap.size (w.alloc (.cells #[.map (some b)] 86)) w':=by
 have hks:=h.keys_sorted
 have hkl:=keys_len h
 obtain ⟨D,ho,hr⟩:=h
 refine (Tryz.slices_Sorted_keys_93_106 b _ D RV w ho (by rw [hr.size];simp only [maxLen];omega) (by rw [hr.size];omega)).mono ?_
 rintro e w' ⟨v,ss,rfl,hp,hrow,_,hb⟩
 have h1 : ss.mergeSort (fun x y=>decide (x ≤ y)) = strKeys M:=by
  have h2:=mergeSort_of_perm hp
  rw [keys_rel hr] at h2
  exact h2.trans (List.mergeSort_of_pairwise hks)
 have hlen : ss.length = (keysM M).length:=by
  have h3:=hp.length_eq
  rw [keys_rel hr] at h3
  rw [h3]
  unfold keysM
  rw [List.length_map]
 rw [h1,hlen] at hrow
 have hreps : Reps (Kd.string.K w') 1 (keysM M) ((strKeys M).map Go.Proofs.encStr):=by
  refine ⟨by unfold keysM;rw [List.length_map,List.length_map,Nat.mul_one],fun j p hj=>?_⟩
  unfold keysM at hj
  rw [List.getElem?_map] at hj
  obtain ⟨x,hx,rfl⟩:=Option.map_eq_some_iff.1 hj
  obtain ⟨hlt,hxe⟩:=List.getElem?_eq_some_iff.1 hx
  show _ = _
  rw [Nat.mul_one,List.drop_eq_getElem_cons (by rw [List.length_map];exact hlt),List.getElem_map,hxe]
  rfl
 have hty:=hrow.2
 obtain ⟨Ak,ck,rfl,hC⟩:=own_reads_row hrow hreps rfl
 refine ⟨Ak,ck,rfl,hC,fun ad e_=>?_,hb⟩
 rcases hty with ⟨h_,_⟩ | ⟨g,cap,cur,h_,hge,hgb,_⟩
 ·injection h_ with h1_ h2_ h3_
  rw [h1_] at e_
  cases e_
 ·injection h_ with h1_ h2_ h3_
  rw [h1_] at e_
  cases e_
  exact ⟨⟨cur,hgb⟩,Nat.le_trans (by rw [World.size_alloc];exact Nat.le_succ _) hge⟩
theorem C_keepT {g : Nat} {w W : World} {A : Option Addr} {n : Nat} {l : List ByteArray} (h : Kd.string.C w A n l) (ht : ∀ ad,A = some ad → (∃ cur,w.heap[ad.block]? = some (.cells cur 9 (0,0))) ∧ ad.block ≠ g) (hk : KeepT g w W) : Kd.string.C W A n l :=
 ⟨h.1,h.2.1,fun hn=>by
  obtain ⟨ad,e,hc⟩:=h.2.2 hn
  obtain ⟨⟨cur,hb⟩,hne⟩:=ht ad e
  have hb':=hk.2 _ _ hb hne (fun c e2=>by injection e2 with _ e3;exact absurd e3 (by decide))
  refine ⟨ad,e,fun j p hj=>?_⟩
  obtain ⟨c,hs,hr,hcell⟩:=hc j p hj
  exact ⟨c,hs,hr,fun i u hu=>cell_block (hcell i u hu) ((ad_block ad _).symm ▸ hb) ((ad_block ad _).symm ▸ hb')⟩⟩
theorem clone_typed (w : World) (d : S34) (A2 : Option Addr) (c2 : Nat) (hc2 : d.f3.length ≤ c2) (hr2 : Kd.string.C w A2 d.f3.length d.f3) (hl : d.f3.length ≤ 1000000) :
  Calls Tryz.prog 61 #[.agg #[.int .i64 d.f0,.string d.f1,.string d.f2,.slice A2 d.f3.length c2,.string d.f4,.string d.f5]] w fun e w'=>∃ A3 c3,e = .returned (.agg #[.int .i64 d.f0,.string d.f1,.string d.f2,.slice A3 d.f3.length c3,.string d.f4,.string d.f5]) ∧ d.f3.length ≤ c3 ∧ Kd.string.C w' A3 d.f3.length d.f3 ∧ (∀ ad,A3 = some ad → (∃ cur,w'.heap[ad.block]? = some (.cells cur 9 (0,0))) ∧ w.heap.size ≤ ad.block) ∧ Below w.heap.size w w':=by
 refine (snap_clone.calls d.f0 d.f1 d.f2 A2 c2 d.f3 d.f4 d.f5 d.f0 d.f1 d.f2 d.f3 d.f4 d.f5 w hr2 hc2 ?_).mono ?_
 ·unfold snap_clone.f slices_Clone_string_string.f
  rw [if_pos (by omega),Option.bind_some]
 ·rintro e w' ⟨v3,rfl,ho,hb⟩
  have hty:=Kd.R_typed ho
  have hba:=Kd.R_base ho
  obtain ⟨A3,c3,rfl,hl3,hC3⟩:=Kd.R_reads ho
  exact ⟨A3,c3,rfl,hl3,hC3,fun ad e_=>by
   subst e_
   exact ⟨hty _ rfl,hba _ rfl⟩,hb⟩
def QeT (gw : Nat) (P : S34 → Prop) (x : El) (W : World) : Prop:=Qe P x W ∧ ∀ ad,x.2.1 = some ad → (∃ cur,W.heap[ad.block]? = some (.cells cur 9 (0,0))) ∧ ad.block ≠ gw
theorem it_seqT (n : Nat) (hn : 6 ≤ n) (w0 w : World) (gw gb g b : Nat) (M : DataW S34) (hB0 : Below w0.heap.size w0 w) (h1 : w.heap[gb]? = some (.cells #[.pointer (some ⟨g,0,none⟩)] 26 (0,0))) (hgb : gb ≠ gw) (hgw : gw < w.heap.size) (h2 : w0.cell? ⟨g,0,none⟩ = some (.map (some b))) (hm : MapD w0 b M) (hz : Maps.size M ≤ 1000) (hv : ∀ d ∈ valsM M,d.f3.length ≤ 1000000) :
  SeqQ n Tryz.prog 105 #[.pointer (some ⟨gb,0,none⟩)] encE (KpT w0.heap.size gw) (QeT gw fun d=>d ∈ valsM M) (fun xs=>xs.map (·.1) = valsM M) (fun pre=>pre.map (·.1) <+: valsM M) (valsM M).length w:=by
 intro l J Jx W hW hJ hJx hY h0
 have b1:=blk_below h1 hW
 have hBW:=hB0.trans (hW.mono hB0.size)
 have c1:=(bC b1 0).trans rfl
 have c2:=pC hBW h2
 have hmW:=hm.below hBW
 have HM0:=As.mk hm
 have HC0:=As.mk h2
 have HGB:=As.mk hgb
 have HGW:=As.mk (show gw < W.heap.size from Nat.lt_of_lt_of_le hgw hW.size)
 have HKL:=As.mk (show (keysM M).length ≤ 1000 by rw [keys_len hm];exact hz)
 have HVL:=As.mk (vals_len hm)
 clear h1 h2 hW hB0 hgb hgw
 have hu34:=Tryz.underlying34
 have hn1 : 1 ≤ n - 1:=by omega
 have hn0 : 1 ≤ n:=by omega
 have hf0 : Fence.wide.fn 65:=trivial
 have hf1 : Fence.wide.fn 106:=trivial
 have hf2 : Fence.wide.fn 93:=trivial
 have hf3 : Fence.wide.fn 61:=trivial
 refine callsIn_of_wp Tryz.func105 rfl trivial ?_ rfl
 simp only [Tryz.ntmps105,List.size_toArray,List.length_cons,List.length_nil,Nat.reduceAdd,Nat.reduceSub,Array.replicate_succ,Array.replicate_zero,List.push_toArray,List.append_toArray,List.nil_append,List.cons_append]
 gi_wp2_with (first
  | (gi_at_call 65;refine (callsIn_wide.2 (all_some _ g b c2)).mono ?_;rintro e w1 ⟨rfl,hw_⟩;rw [hw_])
  | (gi_at_call 106;refine (callsIn_wide.2 (callsIn_wide.1 (Tryz.maps_Keys_106 _ _))).mono ?_;rintro e w2 ⟨rfl,rfl⟩)
  | (gi_at_call 93;refine (callsIn_wide.2 (callsIn_wide.1 (sorted_typed _ b M hmW hz))).mono ?_;rintro e w3 ⟨Ak,ck,rfl,hCk,hty_,hbk⟩))
 have hb3 : Below W.heap.size W w3:=below_then (bA (Below.refl _ W) _) (bA (Below.refl _ W) _).size hbk
 have HD1:=As.mk (blk_below b1 hb3)
 have HB3:=As.mk (hBW.trans (hb3.mono hBW.size))
 have hm3:=hmW.below hb3
 have hJ3 : J [] w3:=hJ _ _ _ none h0 (grown_of_below hb3 none) (fun r e=>by cases e)
 have hsz3 : W.heap.size ≤ w3.heap.size:=hb3.size
 have HCK:=As.mk hCk
 have HTY:=As.mk (show ∀ ad,Ak = some ad → (∃ cur,w3.heap[ad.block]? = some (.cells cur 9 (0,0))) ∧ gw < ad.block from fun ad e_=>⟨(hty_ ad e_).1,Nat.lt_of_lt_of_le HGW.out (hty_ ad e_).2⟩)
 have HGW3:=As.mk (Nat.lt_of_lt_of_le HGW.out hb3.size)
 have HJ:=As.mk hJ
 have HJX:=As.mk hJx
 have HY:=As.mk hY
 have HM3:=As.mk hm3
 have HV:=As.mk hv
 clear hCk hty_ hJ hJx hY hm3 hv hb3 hbk hmW hm c1 c2 h0 hz b1 hBW
 gi_loopw [10] (fun i wr=>∃ (x : Nat) (pre : List El),i = .int .i64 (x : Int) ∧ x ≤ (keysM M).length ∧ As (pre.map (·.1) = (valsM M).take x) ∧ As (J pre wr) ∧ As (KpT w0.heap.size gw w3 wr)) (fun i _=>(keysM M).length - (intOf i).toNat)
 case atStart=>exact ⟨0,[],rfl,Nat.zero_le _,⟨rfl⟩,⟨hJ3⟩,⟨KpT.below (Below.refl _ _)⟩⟩
 case round =>
  obtain ⟨x,pre,rfl,p1,HPRE,HJP,HKP⟩:=hrel
  by_cases hlt : x < (keysM M).length
  ·have hold:=KpR.old (w:=w0) (w':=wr) (Nat.le_trans HB3.out.size HKP.out.size) (fun k hk=>(HKP.out.old k hk (Nat.lt_of_lt_of_le hk HB3.out.size)).trans (HB3.out.block k hk))
   have hm:=HM0.out.kp hold (fun h_=>h_)
   have hvx : x < (valsM M).length:=by have:=HVL.out;omega
   obtain ⟨k1,k2,k3⟩:=key_at HM3.out x hlt hvx
   obtain ⟨ky,hky⟩ : ∃ ky,ky = (keysM M)[x]:=⟨_,rfl⟩
   obtain ⟨d,hd⟩ : ∃ d,d = (valsM M)[x]:=⟨_,rfl⟩
   rw [← hky,← hd] at k3
   rw [← hky] at k1
   obtain ⟨A2,c2,hlook,hl2,hC2⟩:=look_run hm k1 k3
   obtain ⟨ad,e_,q0⟩:=Kd.at_string HCK.out (x : Int) (by omega) (by omega)
   rw [rdOf_at _ x hlt,← hky,Int.toNat_natCast] at q0
   subst e_
   obtain ⟨⟨cur_,hcur⟩,hgl⟩:=HTY.out ad rfl
   have q1:=cell_block q0 (show w3.heap[(ad.add x).block]? = some (.cells cur_ 9 (0,0)) from (ad_block ad x).symm ▸ hcur) (show wr.heap[(ad.add x).block]? = some (.cells cur_ 9 (0,0)) from (ad_block ad x).symm ▸ HKP.out.typed ad.block cur_ 9 hcur (by decide) (Nat.ne_of_gt hgl))
   have e1:=(bC (HKP.out.typed _ _ _ HD1.out (by decide) HGB.out) 0).trans rfl
   have e2:=hold.cell _ _ HC0.out rfl
   have HGX:=As.mk (show gw < wr.heap.size from Nat.lt_of_lt_of_le HGW3.out HKP.out.size)
   have HL2:=As.mk hl2
   have HC2:=As.mk hC2
   have HD:=As.mk hd
   have HPL:=As.mk (show pre.length = x by have h_:=congrArg List.length HPRE.out;rw [List.length_map,List.length_take] at h_;omega)
   have HX:=As.mk (show x < (valsM M).length ∧ x < (keysM M).length ∧ (keysM M).length ≤ 1000 from ⟨hvx,hlt,HKL.out⟩)
   have HMEM:=As.mk (show d ∈ valsM M by rw [hd];exact List.getElem_mem hvx)
   have HDV:=As.mk (show d.f3.length ≤ 1000000 from HV.out d (by rw [hd];exact List.getElem_mem hvx))
   have c0_ : decide ((x : Int) < ((keysM M).length : Int)) = true:=decide_eq_true (by omega)
   have p1_ : ((x : Int) < ((keysM M).length : Int)) = True:=eq_true (by omega)
   have p2_ : (x < (keysM M).length) = True:=eq_true hlt
   have hw1 : wrap64 ((x : Int) + 1) = ((x + 1 : Nat) : Int):=by rw [IntWalk.wrap64_in _ (by have:=HKL.out;omega)];omega
   clear hm hold hcur hgl k1 k2 k3 hky hd hl2 hC2 q0
   gi_wp2_with (first
    | (gi_at_call 61;refine (callsIn_wide.2 (clone_typed _ d A2 c2 HL2.out HC2.out HDV.out)).mono ?_;rintro e wc ⟨A3,c3,rfl,hl3,hC3,hty3,hbc⟩;have HJC:=As.mk (HJ.out _ _ _ none HJP.out (grown_of_below hbc none) (fun r e=>by cases e));obtain ⟨fn,tmps,assign,body,hy,hR⟩:=HY.out pre (d,A3,c3) wc HJC.out ⟨⟨HMEM.out,hl3,hC3⟩,fun ad e_=>⟨(hty3 ad e_).1,Nat.ne_of_gt (Nat.lt_of_lt_of_le HGX.out (hty3 ad e_).2)⟩⟩ (by have:=HX.out;have:=HPL.out;omega);dsimp only [encE] at hy))
   refine hR.mono ?_
   rintro e W3 (⟨rfl,hJ4,hk4⟩ | ⟨rfl,hJx4⟩)
   ·gi_wp2
    go_roundw
    case rel=>exact ⟨x + 1,pre ++ [(d,A3,c3)],(by first | (rw [hw1];done) | rfl),HX.out.2.1,⟨by rw [List.map_append,HPRE.out,List.take_succ_eq_append_getElem HX.out.1,HD.out];rfl⟩,⟨hJ4⟩,⟨(HKP.out.trans (KpT.below hbc)).trans hk4⟩⟩
    case measure=>first | exact meas_ x _ HX.out.2.1 HX.out.2.2 | exact meas2_ x _ HX.out.2.1
   ·gi_wp2
    refine bodyPost_ret (results_none rfl _ _ _) rfl ?_
    exact ⟨⟨_,rfl⟩,.inr ⟨_,by rw [List.map_append,HPRE.out,show List.map (·.1) [(d,A3,c3)] = [d] from rfl,HD.out,← List.take_succ_eq_append_getElem HX.out.1];exact List.take_prefix _ _,hJx4⟩⟩
  ·have c0_ : decide ((x : Int) < ((keysM M).length : Int)) = false:=decide_eq_false (by omega)
   have c1_ : ((x : Int) < ((keysM M).length : Int)) = False:=eq_false (by omega)
   have c2_ : (x < (keysM M).length) = False:=eq_false hlt
   have hxe : x = (keysM M).length:=by omega
   gi_wp2
   go_end0
   exact ⟨⟨_,rfl⟩,.inl ⟨pre,by rw [HPRE.out,hxe,← HVL.out,List.take_length],HJP.out⟩⟩
def defS (d : S34) : List Int:=defO d.f0 d.f1 d.f2 d.f3 d.f4 d.f5
def snapO (l : List S34) : List Int:=be4 (l.length : Int) ++ l.flatMap defS
def Wok (k : Nat) (d : S34) : Prop:=def_Right.f k d.f0 d.f1 d.f2 d.f3 d.f4 d.f5 = some true ∧ (d.f0 = 1 ∨ d.f0 = 2) ∧ (d.f1.size ≤ 100000 ∧ d.f2.size ≤ 100000 ∧ d.f3.length ≤ 1000000 ∧ d.f4.size ≤ 100000 ∧ d.f5.size ≤ 100000) ∧ (∀ x ∈ d.f3,x.size ≤ 100000) ∧ (defS d).length ≤ 1000000
theorem flat_len {k : Nat} : ∀ (l : List S34),(∀ d ∈ l,Wok k d) → (l.flatMap defS).length ≤ l.length * 1000000
 | [],_=>Nat.le_refl _
 | x :: l,h=>by
  have h1:=(h x (List.mem_cons_self ..)).2.2.2.2
  have h2:=flat_len l fun d hd=>h d (List.mem_cons_of_mem _ hd)
  rw [List.flatMap_cons,List.length_append,List.length_cons,Nat.succ_mul]
  omega
theorem pre_len {k n : Nat} {l : List S34} (h : ∀ d ∈ l,Wok k d) (hn : l.length ≤ 500) : (be4 (n : Int) ++ l.flatMap defS).length ≤ 1000000000:=by
 have h1:=flat_len (k:=k) l h
 rw [List.length_append]
 have h3 : (be4 (n : Int)).length = 4:=rfl
 omega
theorem WrR.own {w0 X Y : World} {g : Nat} {bs : List Int} {row : Option Nat} (h : WrR w0 X g bs 0) (hg : X.grownBy Y row) (hr : ∀ r,row = some r → ∃ o : Obj,X.heap[r]? = some o ∧ o.isCells = false) : WrR w0 Y g bs 0:=by
 obtain ⟨vv,h1,h2,h3⟩:=h
 have hne : ∀ k c t,X.heap[k]? = some (.cells c t (0,0)) → some k ≠ row:=fun k c t hk e=>by
  obtain ⟨o,ho,hn⟩:=hr k e.symm
  rw [hk] at ho
  cases ho
  cases hn
 refine ⟨vv,(hg.block g (blk_lt h1) (hne _ _ _ h1)).trans h1,h2,?_⟩
 have h4:=Kd.R_tight rfl h3
 refine Kd.R_mono (Kd.R_step h4 fun k hk hlt=>hg.block k hlt ?_) (fun _ _=>trivial)
 obtain ⟨_,inner,ho,_⟩:=h3
 obtain ⟨c',hc⟩:=own_typed ho k hk.symm
 exact hne _ _ _ hc
theorem KeepsFrom.keepT {g B : Nat} {W W' : World} (h : KeepT g W W') (hg : ∃ c t,W.heap[g]? = some (.cells c t (0,0))) : KeepsFrom B W W' :=
 ⟨h.1,fun k o _ hk ho=>h.2 k o hk (fun e=>by
  obtain ⟨c,t,hc⟩:=hg
  rw [← e,hk] at hc
  cases hc
  cases ho) (fun c e=>by
  rw [e] at ho
  cases ho)⟩
theorem R_book {w : World} {base D : Nat} {vv : Value} {bs : List Int} {o : Obj} (o' : Obj) (h : Kd.R (Kd.int .u8) 5 w base (fun _=>True) vv bs) (hD : w.heap[D]? = some o) (hn : o.isCells = false) : Kd.R (Kd.int .u8) 5 (w.putObj D o') base (fun _=>True) vv bs:=by
 refine Kd.R_mono (Kd.R_step (Kd.R_tight rfl h) fun k hk hlt=>World.putObj_heap_other fun e=>?_) (fun _ _=>trivial)
 obtain ⟨c,hc⟩:=Kd.R_typed h k hk.symm
 rw [e,hD] at hc
 cases hc
 cases hn
theorem write_calls (k : Nat) (w0 : World) (p : Option Addr) (M : DataW S34) (h : SnR w0 (.pointer p) M) (hz : Maps.size M ≤ 500) (hd : ∀ d ∈ valsM M,Wok k d) :
  Calls Tryz.prog 36 #[.pointer p] w0 fun e w'=>∃ vv,e = .returned vv ∧ Kd.R (Kd.int .u8) 5 w' w0.heap.size (fun _=>True) vv (snapO (valsM M)) ∧ Below w0.heap.size w0 w':=by
 obtain ⟨gs,bm,he_,hcs,hms⟩:=h
 injection he_ with he_
 subst he_
 refine (callsIn_wide (n:=9)).1 ?_
 refine callsIn_of_wp_marks Tryz.func36 rfl trivial ?_ rfl
 simp only [Tryz.ntmps36,List.size_toArray,List.length_cons,List.length_nil,Nat.reduceAdd,Nat.reduceSub,Array.replicate_succ,Array.replicate_zero,List.push_toArray,List.append_toArray,List.nil_append,List.cons_append]
 refine wpIn_mono ?_ noP_le
 refine wpIn_wide.2 ?_
 have HVK:=As.mk (show (valsM M).length = Maps.size M by rw [vals_len hms,keys_len hms])
 have HZ:=As.mk hz
 have HD:=As.mk hd
 have HCS:=As.mk hcs
 have HMS:=As.mk hms
 have HOL:=As.mk (show (snapO (valsM M)).length ≤ 100000000000000 from Nat.le_trans (pre_len (k:=k) (n:=(valsM M).length) hd (by rw [HVK.out];exact hz)) (by decide))
 clear hz hd hcs hms
 go_upto_region 2 with (fail)
 have bk:=blk_new w0 (Obj.cells #[.slice none 0 0,.int .i64 0] 105)
 have hb_:=bA (Below.refl w0.heap.size w0) (Obj.cells #[.slice none 0 0,.int .i64 0] 105)
 generalize w0.alloc (Obj.cells #[.slice none 0 0,.int .i64 0] 105) = W1 at bk hb_ ⊢
 obtain ⟨gw,hgw⟩ : ∃ gw,gw = w0.heap.size:=⟨_,rfl⟩
 rw [← hgw] at bk ⊢
 have HI:=As.mk (show WrR w0 W1 gw [] 0 from ⟨.slice none 0 0,bk,Nat.le_of_eq hgw.symm,Kd.R_nil _ _ _ _ _⟩)
 have HSN:=As.mk (show Sn W1 (.pointer (some ⟨gs,0,none⟩)) M from Or.inr ⟨gs,bm,rfl,pC hb_ HCS.out,HMS.out.below hb_⟩)
 have HB:=As.mk hb_
 clear bk hb_ hgw
 go_wp2_with (first | (go_at_call 48;(with_reducible refine (len_calls _ (.pointer (some ⟨gs,0,none⟩)) M HSN.out).mono ?_);rintro e wz ⟨rfl,rfl⟩) | (go_at_call 77;(with_reducible refine (num_good gw [] (Maps.size M : Int) (Int.natCast_nonneg _) (by have:=HZ.out;omega) (Nat.zero_le _) w0 _ HI.out HB.out).mono ?_);rintro e w2 ⟨rfl,hI1,hB1,hK1⟩;have n0_:=As.mk hI1;have n1_:=As.mk hB1;clear HI HB hI1 hB1 hK1;have HI:=n0_;have HB:=n1_;clear n0_ n1_) | (go_at_call 64;(with_reducible refine (All_calls _ (some ⟨gs,0,none⟩)).mono ?_);rintro e w4 ⟨rfl,hw_⟩;rw [hw_]))
 have HI2:=As.mk (HI.out.below (bA (Below.refl _ w2) (Obj.cells #[.pointer (some ⟨gs,0,none⟩)] 26)))
 have HB2:=As.mk (bA HB.out (Obj.cells #[.pointer (some ⟨gs,0,none⟩)] 26))
 have HGW:=As.mk HI.out.lt
 refine (wpIn_wide (n:=9)).1 (range_q (n:=9) (by omega) (gf:=105) rfl (enters_of Tryz.func105 (by kernel_rfl) rfl) (encs:=encE) (Kp:=KpT w0.heap.size gw) (Qe:=QeT gw fun d=>d ∈ valsM M) (S:=fun xs=>xs.map (·.1) = valsM M) (Sp:=fun pre=>pre.map (·.1) <+: valsM M) (N:=(valsM M).length) ?hseq KpT.trans (fun W l o o' hl ho hc _=>KpT.book W l o o' (Nat.le_trans HB2.out.size hl) ho hc) (Below.refl _ _) (fun _=>rfl)
  (fun pre W=>(WrR w0 W gw (be4 (Maps.size M : Int) ++ (pre.map (·.1)).flatMap defS) 0 ∧ ∀ d ∈ pre.map (·.1),d ∈ valsM M) ∧ Below w0.heap.size w0 W)
  (fun _ _=>False) ?hI ?hIr ?h0 (fun x a' W=>∃ Bx : Nat,a' = { tmps:=#[.pointer (some ⟨gs,0,none⟩),undef,.slice none 0 0,.pointer (some ⟨gw,0,none⟩),.pointer (some ⟨Bx,0,none⟩),.pointer (some ⟨gs,0,none⟩),.int .i64 (Maps.size M : Int),.tuple #[],.pointer (some ⟨gs,0,none⟩),.func (.func 105) #[] #[.pointer (some ⟨w2.heap.size,0,none⟩)],.agg #[.int .i64 x.1.f0,.string x.1.f1,.string x.1.f2,.slice x.2.1 x.1.f3.length x.2.2,.string x.1.f4,.string x.1.f5],undef,undef,undef],defers:=[] } ∧ QeT gw (fun d=>d ∈ valsM M) x W ∧ W.cell? ⟨Bx,0,none⟩ = some (.int .i64 x.1.f0) ∧ W.cell? ⟨Bx,1,none⟩ = some (.string x.1.f1) ∧ W.cell? ⟨Bx,2,none⟩ = some (.string x.1.f2) ∧ W.cell? ⟨Bx,3,none⟩ = some (.slice x.2.1 x.1.f3.length x.2.2) ∧ W.cell? ⟨Bx,4,none⟩ = some (.string x.1.f4) ∧ W.cell? ⟨Bx,5,none⟩ = some (.string x.1.f5)) ?hAx ?hassign ?hbody ?hdone ?hstop)
 case hseq=>exact it_seqT 8 (by omega) w0 _ gw w2.heap.size gs bm M HB2.out (blk_new w2 _) (Nat.ne_of_gt HGW.out) (Nat.lt_of_lt_of_le HGW.out (by rw [World.size_alloc];exact Nat.le_succ _)) HCS.out HMS.out (Nat.le_trans HZ.out (by decide)) (fun d hd=>(HD.out d hd).2.2.1.2.2.1)
 case hI=>exact OwnFrom.and (Own.from (fun s X Y row hs hg hr=>⟨WrR.own hs.1 hg hr,hs.2⟩) _) (ownFrom_below (Nat.le_refl _) HB2.out.size)
 case hIr=>exact fun s X Y row hs _ _=>hs
 case h0=>exact ⟨⟨HI2.out,fun d hd=>by cases hd⟩,HB2.out⟩
 case hassign =>
  rintro l_ pre ⟨d,A3,c3⟩ W K hI hq hK
  dsimp only [encE]
  gi_wp2
  have hcells:=blk_new W (Obj.cells #[.int .i64 d.f0,.string d.f1,.string d.f2,.slice A3 d.f3.length c3,.string d.f4,.string d.f5] 34)
  have hbl:=bA (Below.refl _ W) (Obj.cells #[.int .i64 d.f0,.string d.f1,.string d.f2,.slice A3 d.f3.length c3,.string d.f4,.string d.f5] 34)
  have hck:=CellsKept.below hbl
  obtain ⟨⟨i1,i2⟩,i8⟩:=hI
  obtain ⟨hq0,hqt⟩:=hq
  refine hK _ _ ((KeepsOthers.alloc _ _).from _) (KpT.below hbl) ⟨⟨i1.below hbl,i2⟩,bA i8 _⟩ ⟨W.heap.size,rfl,⟨⟨hq0.1,hq0.2.1,C_cells hq0.2.2 hck⟩,fun ad e_=>⟨by obtain ⟨cur,hc_⟩:=(hqt ad e_).1;exact ⟨cur,blk_below hc_ hbl⟩,(hqt ad e_).2⟩⟩,(bC hcells 0).trans rfl,(bC hcells 1).trans rfl,(bC hcells 2).trans rfl,(bC hcells 3).trans rfl,(bC hcells 4).trans rfl,(bC hcells 5).trans rfl⟩
 case hAx =>
  intro x a' s_ X Y row hs hg hr
  have hk:=kept_own hg (fun r e=>(hr r e).2)
  obtain ⟨Bx,h0_,⟨⟨hm_,h1_,h2_⟩,ht_⟩,h3_,h4_,h5_,h6_,h7_,h8_⟩:=hs
  refine ⟨Bx,h0_,⟨⟨hm_,h1_,C_cells h2_ hk⟩,fun ad e_=>⟨?_,(ht_ ad e_).2⟩⟩,hk _ _ h3_,hk _ _ h4_,hk _ _ h5_,hk _ _ h6_,hk _ _ h7_,hk _ _ h8_⟩
  obtain ⟨cur,hc_⟩:=(ht_ ad e_).1
  exact ⟨cur,(hg.block _ (blk_lt hc_) (fun e=>by
   obtain ⟨_,o,ho,hn⟩:=hr _ e.symm
   rw [hc_] at ho
   cases ho
   cases hn)).trans hc_⟩
 case hbody =>
  rintro l_ pre x a' W ⟨⟨i1,i2⟩,i8⟩ ⟨Bx,rfl,⟨⟨hm_,hq1,hq2⟩,hqt⟩,b0,b1,b2,b3,b4,b5⟩ hlt
  have HI1:=As.mk i1
  have HI2_:=As.mk i2
  have HI8:=As.mk i8
  have HM_:=As.mk hm_
  have HQ1:=As.mk hq1
  have HROW:=As.mk (show ∀ W' : World,Below w0.heap.size w0 W' → KeepT gw W W' → Kd.C Kd.string W' x.2.1 x.1.f3.length x.1.f3 from fun W' _ hk=>C_keepT hq2 hqt hk)
  have HWK:=As.mk (HD.out x.1 hm_)
  have HPL:=As.mk (pre_len (k:=k) (n:=Maps.size M) (fun d hd=>HD.out d (i2 d hd)) (by rw [List.length_map];have:=HVK.out;have:=HZ.out;omega))
  have hn7 : 1 ≤ 9 - 1 - 1:=by omega
  have hf2 : Fence.wide.fn 78:=trivial
  clear i1 i2 i8 hm_ hq1 hq2 hqt hlt
  gi_wp2_with (first | (gi_at_call 78;refine (calls_round _ (write_good gw (be4 (Maps.size M : Int) ++ (pre.map (·.1)).flatMap defS) k x.1.f0 x.1.f1 x.1.f2 x.2.1 x.2.2 x.1.f3 x.1.f4 x.1.f5 w0 _ HI1.out HI8.out HROW.out HQ1.out HWK.out.1 HWK.out.2.1 ⟨HPL.out,HWK.out.2.2.1⟩ HWK.out.2.2.2.1)).mono ?_;rintro e w7 ⟨rfl,hI7,hB7,hK7⟩))
  refine ⟨KeepsFrom.keepT hK7 (by obtain ⟨_,hg_,_⟩:=HI1.out;exact ⟨_,_,hg_⟩),KpT.of rfl HI8.out hB7 hK7,⟨?_,fun d hd=>?_⟩,hB7⟩
  ·rw [List.map_append,List.flatMap_append,← List.append_assoc]
   have h_ : List.flatMap defS (List.map (·.1) [x]) = defO x.1.f0 x.1.f1 x.1.f2 x.1.f3 x.1.f4 x.1.f5:=List.append_nil _
   rw [h_]
   exact hI7
  ·rw [List.map_append] at hd
   rcases List.mem_append.1 hd with hd | hd
   ·exact HI2_.out d hd
   ·rw [List.mem_singleton.1 hd]
    exact HM_.out
 case hdone =>
  rintro D xs W hD hS ⟨⟨i1,i2⟩,i8⟩ hKD
  rw [hS,← HVK.out] at i1
  have HI1:=As.mk (show WrR w0 W gw (snapO (valsM M)) 0 from i1)
  clear i1 i2
  go_wp2_with (first | (go_at_call 79;(with_reducible refine (wr_bytes gw (snapO (valsM M)) 0 HOL.out w0 _ HI1.out).mono ?_);rintro e w7 ⟨vv,rfl,hR7,hb7⟩))
  have hKD':=blk_below hKD hb7
  refine ⟨by simp,.inl ⟨_,_,rfl,run_takeDeferred hKD',?_⟩⟩
  refine ⟨vv,?_,⟨vv,rfl,R_book _ (Kd.R_lower hR7 i8.size) hKD' rfl,(i8.trans (hb7.mono i8.size)).trans (belowK_b (w:=w0) (Nat.le_refl _) w7 D _ _ (by have:=HB2.out.size;omega) hKD' rfl rfl)⟩⟩
  simp [results,Tryz.f36,go_sem]
 case hstop =>
  rintro D pre W hD hpre h hKD
  exact h.elim
end Go.Proofs.YtmlebgikdegjjaaGreatDoor.Hd
