/- Snapshots: their maps, how many definitions they hold, and copies of them. -/
import Derived.Test.YtmlebgikdegjjaaGreatDoorSa
import Derived.Deep.LoopGhost
set_option maxHeartbeats 16000000
set_option maxRecDepth 100000
namespace Go.Proofs.YtmlebgikdegjjaaGreatDoor.Hd
open Go.Maps Go.RowKit Go.Proofs.YtmlebgikdegjjaaGreatDoorW.PrintWords Go.Proofs.YtmlebgikdegjjaaGreatDoorW.PrintLast Go.Proofs.YtmlebgikdegjjaaGreatDoorW.PrintMore Go.Proofs.YtmlebgikdegjjaaGreatDoor.PAll
attribute [local go_sem] max2_int min2_int max_two min_two max_three min_three max_four min_four
set_option linter.unusedVariables false
set_option linter.unusedSimpArgs false
def SnR (w : World) (v : Value) (M : DataW S34) : Prop:=∃ g b,v = .pointer (some ⟨g,0,none⟩) ∧ w.cell? ⟨g,0,none⟩ = some (.map (some b)) ∧ MapD w b M
def SnF (w : World) (base : Nat) (v : Value) (M : DataW S34) : Prop:=∃ g b,v = .pointer (some ⟨g,0,none⟩) ∧ w.cell? ⟨g,0,none⟩ = some (.map (some b)) ∧ MapD w b M ∧ base ≤ g ∧ base ≤ b
theorem SnF.rd {w : World} {base : Nat} {v : Value} {M : DataW S34} (h : SnF w base v M) : SnR w v M:=by
 obtain ⟨g,b,e,hc,hm,_⟩:=h
 exact ⟨g,b,e,hc,hm⟩
def Sn (w : World) (v : Value) (M : DataW S34) : Prop:=(v = .pointer none ∧ M = .map []) ∨ SnR w v M
theorem SnR.below {w w' : World} {v : Value} {M : DataW S34} (h : SnR w v M) (hb : Below w.heap.size w w') : SnR w' v M:=by
 obtain ⟨g,b,e,hc,hm⟩:=h
 exact ⟨g,b,e,CellsKept.below hb _ _ hc,hm.below hb⟩
theorem Sn.below {w w' : World} {v : Value} {M : DataW S34} (h : Sn w v M) (hb : Below w.heap.size w w') : Sn w' v M:=by
 rcases h with h | h
 ·exact Or.inl h
 ·exact Or.inr (h.below hb)
theorem all_nil (w : World) : Calls Tryz.prog 65 #[.pointer none] w fun e w'=>e = .returned (.map none) ∧ w' = w:=by
 go_enter Tryz.func65,Tryz.ntmps65
 go_wp2
 go_ret
 exact ⟨rfl,rfl⟩
theorem all_some (w : World) (g b : Nat) (hc : w.cell? ⟨g,0,none⟩ = some (.map (some b))) : Calls Tryz.prog 65 #[.pointer (some ⟨g,0,none⟩)] w fun e w'=>e = .returned (.map (some b)) ∧ w' = w:=by
 go_enter Tryz.func65,Tryz.ntmps65
 go_wp2
 go_ret
 exact ⟨rfl,rfl⟩
theorem len_calls (w : World) (v : Value) (M : DataW S34) (h : Sn w v M) : Calls Tryz.prog 48 #[v] w fun e w'=>e = .returned (.int .i64 (Maps.size M)) ∧ w' = w:=by
 rcases h with ⟨rfl,rfl⟩ | ⟨g,b,rfl,hc,hm⟩
 ·go_enter Tryz.func48,Tryz.ntmps48
  go_wp2_with (first | (go_at_call 65;(with_reducible refine (all_nil _).mono ?_);rintro e w1 ⟨rfl,rfl⟩) | (at_len;refine len_nil_event rfl _ rfl rfl ?_))
  go_ret
  exact ⟨rfl,rfl⟩
 ·go_enter Tryz.func48,Tryz.ntmps48
  go_wp2_with (first | (go_at_call 65;(with_reducible refine (all_some _ g b hc).mono ?_);rintro e w1 ⟨rfl,rfl⟩) | (at_len;refine len_event rfl _ rfl b M rfl hm ?_))
  go_ret
  exact ⟨rfl,rfl⟩
theorem copy_nil (w : World) (bd : Nat) : Calls Tryz.prog 104 #[.map (some bd),.map none] w fun e w'=>e = .returned (.tuple #[]) ∧ Below w.heap.size w w':=by
 have hrg:=run_range_nilMap (P:=Tryz.prog) w 86 9 34 Tryz.underlying86
 have hnx : ∀ ty,(Instr.next (.pointer (some ⟨w.heap.size,0,none⟩)) false ty).run Tryz.prog (w.alloc (.mapIter none 0 #[] 0)) = _:=fun ty=>run_next_nilMap _ ty 0 0 #[]
 go_enter Tryz.func104,Tryz.ntmps104
 go_wp2
 refine wp_loop_rounds 1 ?_
 rw [rounds_succ]
 go_wp2
 go_end0
 exact ⟨rfl,bA (Below.refl _ _) _⟩
theorem copy_some (w : World) (bd bs : Nat) (M : DataW S34) (hd : MapD w bd (.map [])) (hs : MapD w bs M) (hne : bd ≠ bs) (hroom : Maps.size M ≤ 1000) :
  Calls Tryz.prog 104 #[.map (some bd),.map (some bs)] w fun e w'=>e = .returned (.tuple #[]) ∧ MapD w' bd M ∧ w.grownBy w' (some bd) ∧ CellsKept w w':=by
 obtain ⟨Dd,hod,hrd⟩:=hd
 obtain ⟨Ds,hos,hrs⟩:=hs
 have hDd : Dd = .map []:=by
  obtain ⟨es,ms,rfl,e,hr⟩:=hrd
  cases e
  cases es with
  | nil=>rfl
  | cons=>exact hr.elim
 subst hDd
 clear hrd
 have hod : w.ownsMap Tryz.prog 9 RV bd 0 (.map []):=hod
 have hcells : ∀ w',w.grownBy w' (some bd) → CellsKept w w':=fun w' hg=>by
  obtain ⟨es,clock,hb,_⟩:=hod
  exact .grown hg hb
 have hbd:=hod.lt
 have hbs:=hos.lt
 have HRS:=As.mk hrs
 have HCELLS:=As.mk hcells
 have hsz : Maps.size Ds ≤ 1000:=by rw [hrs.size];exact hroom
 clear hrs hcells hroom
 have hu:=Tryz.underlying34
 go_enter Tryz.func104,Tryz.ntmps104
 go_wp2_with (first
  | (at_range;refine wpList_range_own _ rfl _ 86 rfl 9 34 keyed_ Tryz.underlying86 RV bs _ _ rfl hos ?_;intro w0 hrg0 hg0 hs0)
  | go_in)
 go_frame
 go_loopw [8] (fun _ wr=>∃ (left : Lit → Bool) (cnt : Nat) (Dout : DataW Value),wr.ranges Tryz.prog 9 RV bs w.heap.size (Maps.size M) Ds left cnt ∧ cnt ≤ Maps.size Ds ∧
   wr.ownsMap Tryz.prog 9 RV bd (Maps.size Ds - cnt) Dout ∧ Agree Dout Ds left ∧ w.grownBy wr (some bd))
  (fun _ wr=>wr.rangeLeft bs w.heap.size)
 case atStart =>
  exact ⟨_,_,.map [],hrg0,by rw [HRS.out.size];exact Nat.le_refl _,(hod.kept hg0 (by simp)).mono (by omega),agree_start Ds,hg0.but _⟩
 case round =>
  obtain ⟨left,cnt,Dout,hrg,hcs,hout,hM,hgw⟩:=hrel
  go_wp2_with (first
   | (at_next;refine wpList_next_ranges _ rfl _ rfl 9 keyed_ RV id id (fun key _ _=>⟨key,rfl⟩) (fun v _ _=>⟨v,rfl⟩) bs w.heap.size _ _ _ _ rfl hrg ?_ ?_)
   | go_in)
  ·intro hc0 hl0
   go_wp2
   go_end0
   subst hc0
   have e:=agree_end hM hl0 (hout.canon keyed_) (hrg.owns.canon keyed_)
   subst e
   have hk:=HCELLS.out _ hgw
   exact ⟨rfl,MapD.of hout (HRS.out.cells hk),hgw,hk⟩
  ·intro x c kl yd yp w1 cnt1 hkey hlx hv hv2 hat hrg1 hlt hg1 hs1 hen
   have hout1:=hout.kept hg1 (fun e=>by have:=Option.some.inj e;omega)
   have hgw1 : w.grownBy w1 (some bd):=hgw.andThen hg1 (fun j hj=>.inl (by cases hj;exact Nat.le_refl _))
   have hyd : yd = .held c:=hv.symm
   have hDv : ∃ d,Dv w1 d c:=by
    rcases HRS.out.look kl with ⟨h1,_⟩ | ⟨_,_,v,d,h3,_,h5⟩
    ·have h2:=has_true_of_atKey hat
     rw [h1] at h2
     cases h2
    ·have h4:=(h3 .nil).symm.trans (hat .nil)
     rw [hyd] at h4
     injection h4 with h4
     subst h4
     exact ⟨d,h5.cells (HCELLS.out _ hgw1)⟩
   obtain ⟨d,AA,cc,rfl,_,_⟩:=hDv
   subst hyd
   go_wp2_with (first
    | (at_mapUpdate;refine wpList_mapUpdate_own _ rfl _ _ _ 86 rfl 9 34 keyed_ Tryz.underlying86 RV bd _ _ rfl (by first | exact hout1 | exact hout1.kept (World.grownBy_alloc _ _ none) (by simp)) (by simp only [maxLen];omega) _ _ _ rfl rfl hkey _ [] rfl ?_;intro w2 hout2 hg2;go_frame)
    | go_in)
   have hrg2:=(hrg1.alloc _).kept hg2 (fun e=>hne (Option.some.inj e).symm) (fun e=>by have:=Option.some.inj e;omega)
   go_roundw
   case rel=>exact ⟨_,cnt1,_,hrg2,by omega,hout2.mono (by omega),agree_step hM hout.isMap (keyed_.key hkey) hat,(hgw1.andThen (World.grownBy_alloc _ _ none) (fun j hj=>by cases hj)).andThen hg2 (fun j hj=>.inr hj)⟩
   case measure=>rw [hrg2.left_eq,hrg.left_eq];exact hlt
theorem below_own {w W W' : World} {B b : Nat} (h : Below B w W) (hB : B ≤ W.heap.size) (hg : W.grownBy W' (some b)) (hb : B ≤ b) : Below B w W' :=
 ⟨hg.os.trans h.os,hg.tape.trans h.tape,hg.output.trans h.output,Nat.le_trans h.size hg.size,fun k hk=>(hg.block k (by omega) (fun e=>by have:=Option.some.inj e;omega)).trans (h.block k hk)⟩
def snapcop.T2 : Bool × List (List Nat × List Nat):=(true,[([],[]),([0],[0]),([1],[1]),([2],[2]),([],[]),([4],[4]),([3,5,5],[3,5])])
def snapcop.B2 : List Nat:=[0,1,3,7,0,16,63]
theorem snapcop.tab2 : rtab .any (opsOf Tryz.f63 2) = snapcop.T2:=by kernel_rfl
theorem snapcop.bits2 : waitsOk snapcop.T2.2 snapcop.B2 = true:=by kernel_rfl
theorem copied_calls (w : World) (v : Value) (M : DataW S34) (h : Sn w v M) (hroom : Maps.size M ≤ 1000) : Calls Tryz.prog 63 #[v] w fun e w'=>∃ g,e = .returned (.pointer (some ⟨g,0,none⟩)) ∧ SnF w' w.heap.size (.pointer (some ⟨g,0,none⟩)) M ∧ Below w.heap.size w w':=by
 rcases h with ⟨rfl,rfl⟩ | ⟨gs,bs,rfl,hc,hmM⟩
 ·go_enter Tryz.func63,Tryz.ntmps63
  go_upto_region 2 with (first | ((with_reducible refine gate_dst (N:=4) rfl ?_);refine made_event rfl rfl ?_;intro bp w1 hbp hm hb hsz_;have HM:=As.mk hm;have HB:=As.mk hb;have HSZ:=As.mk hsz_;have HBP:=As.mk hbp;clear hm hb hsz_ hbp))
  have BK:=blk_new w1 (Obj.cells #[.map (some bp)] 88)
  have HB2:=bA HB.out (Obj.cells #[.map (some bp)] 88)
  have HM2:=HM.out.below (bA (Below.refl _ w1) (Obj.cells #[.map (some bp)] 88))
  have hge : w.heap.size ≤ w1.heap.size:=HB.out.size
  have hbp : w.heap.size ≤ bp:=Nat.le_of_eq HBP.out.symm
  generalize w1.alloc (Obj.cells #[.map (some bp)] 88) = W2 at BK HB2 HM2 ⊢
  generalize w1.heap.size = gp at BK hge ⊢
  have hcz_0 : W2.drew.cell? ⟨gp,0,none⟩ = some (.map (some bp)):=(bC (kD BK) 0).trans rfl
  have HB3 : Below w.heap.size w W2.drew:=bD HB2
  have HM3:=HM2.below (bD (Below.refl _ W2))
  refine start_ (n:=7) (S:=fun w'=>w'.cell? ⟨gp,0,none⟩ = some (.map (some bp))) (ds:=[]) #[false,false,false,false,false,false,false] (by kernel_rfl) rfl rfl hcz_0 (fun hHeld=>?_);refine with_tabW snapcop.tab2 snapcop.bits2 (fun HT_ HW_=>?_)
  refine pure_ (i:=0) (N:=some 7) (v:=?_) (a':=?_) #[true,false,false,false,false,false,false] rfl rfl (any_of HT_.out (by kernel_rfl)) (fun _ _ _ h=>h) (Or.inl ⟨by rfl,?_⟩) ?_ ?_
  rotate_left
  ·intro w'
   go_simp
   with_reducible rfl
  rotate_left
  ·simp only [Act.put,List.setIfInBounds_toArray,List.set_cons_zero,List.set_cons_succ,i64_w,i32_w]
   rfl
  refine pure_ (i:=1) (N:=some 8) (v:=?_) (a':=?_) #[true,true,false,false,false,false,false] rfl rfl (any_of HT_.out (by kernel_rfl)) (fun _ _ _ h=>h) (Or.inl ⟨by rfl,?_⟩) ?_ ?_
  rotate_left
  ·intro w'
   go_simp
   with_reducible rfl
  rotate_left
  ·simp only [Act.put,List.setIfInBounds_toArray,List.set_cons_zero,List.set_cons_succ,i64_w,i32_w]
   rfl
  refine pure_ (i:=2) (N:=some 9) (v:=?_) (a':=?_) #[true,true,true,false,false,false,false] rfl rfl (any_of HT_.out (by kernel_rfl)) (fun _ _ _ h=>h) (Or.inl ⟨by rfl,?_⟩) ?_ ?_
  rotate_left
  ·intro w'
   go_simp
   with_reducible rfl
  rotate_left
  ·simp only [Act.put,List.setIfInBounds_toArray,List.set_cons_zero,List.set_cons_succ,i64_w,i32_w]
   rfl
  refine take_ (i:=3) (N:=some 10) (v:=?_) (a':=?_) #[true,true,true,true,false,false,false] rfl rfl (take_ofW HT_.out HW_.out (by kernel_rfl)) (fun _ _ _ h=>h) (Or.inl ⟨by rfl,?_⟩) hHeld ?_ ?_
  rotate_left
  ·rintro w' s0
   go_simp
   with_reducible rfl
  rotate_left
  ·simp only [Act.put,List.setIfInBounds_toArray,List.set_cons_zero,List.set_cons_succ,i64_w,i32_w]
   rfl
  refine pure_ (i:=4) (N:=some 11) (v:=?_) (a':=?_) #[true,true,true,true,true,false,false] rfl rfl (any_of HT_.out (by kernel_rfl)) (fun _ _ _ h=>h) (Or.inl ⟨by rfl,?_⟩) ?_ ?_
  rotate_left
  ·intro w'
   go_simp
   with_reducible rfl
  rotate_left
  ·simp only [Act.put,List.setIfInBounds_toArray,List.set_cons_zero,List.set_cons_succ,i64_w,i32_w]
   rfl
  refine one_ (i:=5) (N:=some 12) #[true,true,true,true,true,true,false] rfl rfl (one_of HT_.out (by kernel_rfl)) (by decide) (fun K hK=>?_)
  refine goes_ Tryz.func65 (by kernel_rfl) rfl #[.pointer none] (by rfl) rfl rfl (by (try simp only [List.map_toArray,List.map_cons,List.map_nil]);first | done | rfl | (simp only [List.length_drop,List.length_take];rfl)) ?_
  with_reducible refine (all_nil _).mono ?_
  rintro er w3 ⟨rfl,rfl⟩
  refine ⟨_,rfl,?_⟩
  refine hK.out _ _ hcz_0 (fun hHeld=>?_)
  clear hK K
  refine norm_ (a':=?_) ?_ ?_
  rotate_left
  ·show Act.put _ (some 12) _ = _
   simp only [Act.put,List.setIfInBounds_toArray,List.set_cons_zero,List.set_cons_succ,i64_w,i32_w]
   rfl
  refine one_ (i:=6) (N:=some 13) #[true,true,true,true,true,true,true] rfl rfl (one_of HT_.out (by kernel_rfl)) (by decide) (fun K hK=>?_)
  refine goes_ Tryz.func104 (by kernel_rfl) rfl #[.map (some bp),.map none] (by rfl) rfl rfl (by (try simp only [List.map_toArray,List.map_cons,List.map_nil]);first | done | rfl | (simp only [List.length_drop,List.length_take];rfl)) ?_
  with_reducible refine (copy_nil _ bp).mono ?_
  rintro er w4 ⟨rfl,hb4⟩
  have hcz_1 : w4.cell? ⟨gp,0,none⟩ = some (.map (some bp)):=pC hb4 hcz_0
  refine ⟨_,rfl,?_⟩
  refine hK.out _ _ hcz_1 (fun hHeld=>?_)
  clear hK K
  refine norm_ (a':=?_) ?_ ?_
  rotate_left
  ·show Act.put _ (some 13) _ = _
   simp only [Act.put,List.setIfInBounds_toArray,List.set_cons_zero,List.set_cons_succ,i64_w,i32_w]
   rfl
  refine done_ (done_of HT_.out (by kernel_rfl)) ?_
  go_wp2_with (fail)
  go_ret
  exact ⟨gp,rfl,⟨gp,bp,rfl,hcz_1,HM3.below hb4,hge,hbp⟩,below_then HB3 HB3.size hb4⟩
 ·have HBS:=As.mk hmM.lt
  go_enter Tryz.func63,Tryz.ntmps63
  go_upto_region 2 with (first | ((with_reducible refine gate_dst (N:=4) rfl ?_);refine made_event rfl rfl ?_;intro bp w1 hbp hm hb hsz_;have HM:=As.mk hm;have HB:=As.mk hb;have HSZ:=As.mk hsz_;have HBP:=As.mk hbp;clear hm hb hsz_ hbp))
  have BK:=blk_new w1 (Obj.cells #[.map (some bp)] 88)
  have HB2:=bA HB.out (Obj.cells #[.map (some bp)] 88)
  have HM2:=HM.out.below (bA (Below.refl _ w1) (Obj.cells #[.map (some bp)] 88))
  have hge : w.heap.size ≤ w1.heap.size:=HB.out.size
  have hbp : w.heap.size ≤ bp:=Nat.le_of_eq HBP.out.symm
  generalize w1.alloc (Obj.cells #[.map (some bp)] 88) = W2 at BK HB2 HM2 ⊢
  generalize w1.heap.size = gp at BK hge ⊢
  have hcz_0 : W2.drew.cell? ⟨gp,0,none⟩ = some (.map (some bp)):=(bC (kD BK) 0).trans rfl
  have HB3 : Below w.heap.size w W2.drew:=bD HB2
  have HM3:=HM2.below (bD (Below.refl _ W2))
  have hcs : W2.drew.cell? ⟨gs,0,none⟩ = some (.map (some bs)):=CellsKept.below HB3 _ _ hc
  have HMS:=hmM.below HB3
  refine start_ (n:=7) (S:=fun w'=>w'.cell? ⟨gp,0,none⟩ = some (.map (some bp))) (ds:=[]) #[false,false,false,false,false,false,false] (by kernel_rfl) rfl rfl hcz_0 (fun hHeld=>?_);refine with_tabW snapcop.tab2 snapcop.bits2 (fun HT_ HW_=>?_)
  refine pure_ (i:=0) (N:=some 7) (v:=?_) (a':=?_) #[true,false,false,false,false,false,false] rfl rfl (any_of HT_.out (by kernel_rfl)) (fun _ _ _ h=>h) (Or.inl ⟨by rfl,?_⟩) ?_ ?_
  rotate_left
  ·intro w'
   go_simp
   with_reducible rfl
  rotate_left
  ·simp only [Act.put,List.setIfInBounds_toArray,List.set_cons_zero,List.set_cons_succ,i64_w,i32_w]
   rfl
  refine pure_ (i:=1) (N:=some 8) (v:=?_) (a':=?_) #[true,true,false,false,false,false,false] rfl rfl (any_of HT_.out (by kernel_rfl)) (fun _ _ _ h=>h) (Or.inl ⟨by rfl,?_⟩) ?_ ?_
  rotate_left
  ·intro w'
   go_simp
   with_reducible rfl
  rotate_left
  ·simp only [Act.put,List.setIfInBounds_toArray,List.set_cons_zero,List.set_cons_succ,i64_w,i32_w]
   rfl
  refine pure_ (i:=2) (N:=some 9) (v:=?_) (a':=?_) #[true,true,true,false,false,false,false] rfl rfl (any_of HT_.out (by kernel_rfl)) (fun _ _ _ h=>h) (Or.inl ⟨by rfl,?_⟩) ?_ ?_
  rotate_left
  ·intro w'
   go_simp
   with_reducible rfl
  rotate_left
  ·simp only [Act.put,List.setIfInBounds_toArray,List.set_cons_zero,List.set_cons_succ,i64_w,i32_w]
   rfl
  refine take_ (i:=3) (N:=some 10) (v:=?_) (a':=?_) #[true,true,true,true,false,false,false] rfl rfl (take_ofW HT_.out HW_.out (by kernel_rfl)) (fun _ _ _ h=>h) (Or.inl ⟨by rfl,?_⟩) hHeld ?_ ?_
  rotate_left
  ·rintro w' s0
   go_simp
   with_reducible rfl
  rotate_left
  ·simp only [Act.put,List.setIfInBounds_toArray,List.set_cons_zero,List.set_cons_succ,i64_w,i32_w]
   rfl
  refine pure_ (i:=4) (N:=some 11) (v:=?_) (a':=?_) #[true,true,true,true,true,false,false] rfl rfl (any_of HT_.out (by kernel_rfl)) (fun _ _ _ h=>h) (Or.inl ⟨by rfl,?_⟩) ?_ ?_
  rotate_left
  ·intro w'
   go_simp
   with_reducible rfl
  rotate_left
  ·simp only [Act.put,List.setIfInBounds_toArray,List.set_cons_zero,List.set_cons_succ,i64_w,i32_w]
   rfl
  refine one_ (i:=5) (N:=some 12) #[true,true,true,true,true,true,false] rfl rfl (one_of HT_.out (by kernel_rfl)) (by decide) (fun K hK=>?_)
  refine goes_ Tryz.func65 (by kernel_rfl) rfl #[.pointer (some ⟨gs,0,none⟩)] (by rfl) rfl rfl (by (try simp only [List.map_toArray,List.map_cons,List.map_nil]);first | done | rfl | (simp only [List.length_drop,List.length_take];rfl)) ?_
  with_reducible refine (all_some _ gs bs hcs).mono ?_
  rintro er w3 ⟨rfl,rfl⟩
  refine ⟨_,rfl,?_⟩
  refine hK.out _ _ hcz_0 (fun hHeld=>?_)
  clear hK K
  refine norm_ (a':=?_) ?_ ?_
  rotate_left
  ·show Act.put _ (some 12) _ = _
   simp only [Act.put,List.setIfInBounds_toArray,List.set_cons_zero,List.set_cons_succ,i64_w,i32_w]
   rfl
  refine one_ (i:=6) (N:=some 13) #[true,true,true,true,true,true,true] rfl rfl (one_of HT_.out (by kernel_rfl)) (by decide) (fun K hK=>?_)
  refine goes_ Tryz.func104 (by kernel_rfl) rfl #[.map (some bp),.map (some bs)] (by rfl) rfl rfl (by (try simp only [List.map_toArray,List.map_cons,List.map_nil]);first | done | rfl | (simp only [List.length_drop,List.length_take];rfl)) ?_
  with_reducible refine (copy_some _ bp bs M HM3 HMS (by have:=HBS.out;omega) hroom).mono ?_
  rintro er w4 ⟨rfl,hm4,hg4,hk4⟩
  have hcz_1 : w4.cell? ⟨gp,0,none⟩ = some (.map (some bp)):=hk4 _ _ hcz_0
  refine ⟨_,rfl,?_⟩
  refine hK.out _ _ hcz_1 (fun hHeld=>?_)
  clear hK K
  refine norm_ (a':=?_) ?_ ?_
  rotate_left
  ·show Act.put _ (some 13) _ = _
   simp only [Act.put,List.setIfInBounds_toArray,List.set_cons_zero,List.set_cons_succ,i64_w,i32_w]
   rfl
  refine done_ (done_of HT_.out (by kernel_rfl)) ?_
  go_wp2_with (fail)
  go_ret
  exact ⟨gp,rfl,⟨gp,bp,rfl,hcz_1,hm4,hge,hbp⟩,below_own HB3 HB3.size hg4 hbp⟩
end Go.Proofs.YtmlebgikdegjjaaGreatDoor.Hd
