/- diff.Turn: the way back. -/
import Derived.Test.YtmlebgikdegjjaaGreatDoorDf
set_option maxHeartbeats 16000000
set_option maxRecDepth 100000
namespace Go.Proofs.YtmlebgikdegjjaaGreatDoor.Hd
open Go.Maps Go.RowKit Go.Proofs.YtmlebgikdegjjaaGreatDoorW.PrintWords Go.Proofs.YtmlebgikdegjjaaGreatDoorW.PrintLast Go.Proofs.YtmlebgikdegjjaaGreatDoorW.PrintMore Go.Proofs.YtmlebgikdegjjaaGreatDoor.PAll
attribute [local go_sem] max2_int min2_int max_two min_two max_three min_three max_four min_four
set_option linter.unusedVariables false
set_option linter.unusedSimpArgs false
def diffturn.T5 : Bool × List (List Nat × List Nat):=(true,[([],[]),([],[]),([1],[1]),([],[]),([3],[3]),([4],[4]),([],[]),([6],[6]),([7,5],[7]),([2,5,8],[2,5,8]),([9],[9]),([0,10,8],[0,10]),([11,11,0,1,2,3,4,5,6,7,8,9,10,11],[0,11])])
def diffturn.B5 : List Nat:=[0,0,2,0,8,24,0,64,248,510,1022,2047,4095]
theorem diffturn.tab5 : rtab .any (opsOf Tryz.f28 5) = diffturn.T5:=by kernel_rfl
theorem diffturn.bits5 : waitsOk diffturn.T5.2 diffturn.B5 = true:=by kernel_rfl
def turnP (p : List S82) : List S82:=p.map fun x=>⟨x.f0,x.f2,x.f1⟩
theorem turnP_len (p : List S82) : (turnP p).length = p.length:=by
 unfold turnP
 rw [List.length_map]
theorem turnP_next (p : List S82) (n : Nat) (x : S82) (h : p[n]? = some x) : turnP (p.take (n + 1)) = turnP (p.take n) ++ [⟨x.f0,x.f2,x.f1⟩]:=by
 rw [List.take_add_one,h]
 unfold turnP
 rw [List.map_append]
 rfl
theorem CE_cells {w w' : World} {A : Option Addr} {n : Nat} {l : List S82} (h : Kd.C k82 w A n l) (hk : CellsKept w w') : Kd.C k82 w' A n l :=
 ⟨h.1,h.2.1,fun hn=>by
  obtain ⟨ad,e,hc⟩:=h.2.2 hn
  refine ⟨ad,e,fun j p hj=>?_⟩
  obtain ⟨c,hs,hr,hcell⟩:=hc j p hj
  obtain ⟨A1,c1,A2,c2,rfl,l1,g1,l2,g2⟩:=k82_open hr
  exact ⟨_,hs,k82_mk w' p l1 (CK_cells g1 hk) l2 (CK_cells g2 hk),fun i u hu=>hk _ _ (hcell i u hu)⟩⟩
theorem VE_of_C {w : World} {base : Nat} {A : Option Addr} {c : Nat} {l : List S82} (h : Kd.C k82 w A l.length l) (hc : l.length ≤ c) : Kd.V k82 82 w base (fun _=>True) (.slice A l.length c) l :=
 ⟨A,c,rfl,hc,fun W' hW=>CE_cells h (cells_same fun k hk=>hW k trivial hk)⟩
theorem turn_calls (w : World) (A0 : Option Addr) (c0 : Nat) (l : List S82) (hr : Kd.C k82 w A0 l.length l) (hc : l.length ≤ c0) (hl : l.length ≤ 1000000) (hv : ∀ x ∈ l,(x.f1.length ≤ 1000000 ∧ ∀ d ∈ x.f1,d.f3.length ≤ 1000000) ∧ x.f2.length ≤ 1000000 ∧ ∀ d ∈ x.f2,d.f3.length ≤ 1000000) :
  Calls Tryz.prog 28 #[.slice A0 l.length c0] w fun e w'=>∃ v,e = .returned v ∧ Kd.N k82 82 w' w.heap.size (fun _=>True) v (turnP l) ∧ Below w.heap.size w w':=by
 have hu34:=Tryz.underlying34
 have hu82:=Tryz.underlying82
 have HL:=As.mk hl
 have HV0:=As.mk (Kd.V_bound (VE_of_C (base:=0) hr hc))
 have HVV:=As.mk hv
 have HB:=As.mk (Below.refl w.heap.size w)
 clear hr hc hl hv
 go_enter Tryz.func28,Tryz.ntmps28
 go_wp2_with (fail)
 go_loopg [3,8] l.length (fun kq v3 v8 w'=>∃ n : Nat,v8 = .int .i64 (n : Int) ∧ n ≤ l.length ∧ As (kq + n = l.length) ∧ As (Kd.N k82 82 w' w.heap.size (fun _=>True) v3 (turnP (l.take n))) ∧ As (Below w.heap.size w w'))
 case atStart=>exact ⟨0,rfl,Nat.zero_le _,⟨rfl⟩,⟨Kd.N_nil _ _ _ _ _⟩,HB⟩
 case round =>
  clear HB
  obtain ⟨n,rfl,p1,HKQ,HO,HB⟩:=hrel
  by_cases hlt : n < l.length
  case neg =>
   have c0_ : decide ((n : Int) < (l.length : Int)) = false:=decide_eq_false (by omega)
   have ho_:=HO.out
   rw [List.take_of_length_le (by omega)] at ho_
   go_wp2_with (fail)
   go_ret
   exact ⟨_,rfl,ho_,HB.out⟩
  case pos =>
   have hV1:=Kd.V_below HV0.out HB.out
   obtain ⟨ad,B1,d1,B2,d2,e_,q0,q1,q2,_,_,_,_⟩:=at_T82 (Kd.V_reads' hV1).2.2 (n : Int) (by omega) (by omega)
   subst e_
   obtain ⟨cs,hcl,hF,hcc⟩:=Kd.V_get hV1 z82 (n : Int) (by omega) (by omega)
   obtain ⟨x,hx⟩ : ∃ x,x = l[n]:=⟨_,rfl⟩
   rw [show rd_T82 l (n : Int) = x by rw [hx];unfold rd_T82;rw [Int.toNat_natCast,List.getD_eq_getElem?_getD,List.getElem?_eq_getElem hlt];rfl] at q0 q1 q2
   rw [Int.toNat_natCast] at q0 q1 q2 hF hcc
   rw [List.getD_eq_getElem?_getD,List.getElem?_eq_getElem hlt,Option.getD_some,← hx] at hF
   obtain ⟨A1,c1,A2,c2,rfl,hl1,hF1,hl2,hF2⟩:=k82_openF hF
   have h1_:=hcc 1 _ rfl
   have h2_:=hcc 2 _ rfl
   rw [add_field _ _ 1 (by omega)] at h1_
   rw [add_field _ _ 2 (by omega)] at h2_
   replace h1_:=Option.some.inj (h1_.symm.trans q1)
   replace h2_:=Option.some.inj (h2_.symm.trans q2)
   injection h1_ with ha1 _ hc1
   injection h2_ with ha2 _ hc2
   subst ha1 hc1 ha2 hc2
   have HX1:=As.mk (Kd.V_mono (ok':=fun k_=>k_ < w.heap.size) (Kd.V_mk (d:=k34) (e:=34) (base:=0) hl1 hF1) (fun _ hk_=>hk_.2))
   have HX2:=As.mk (Kd.V_mono (ok':=fun k_=>k_ < w.heap.size) (Kd.V_mk (d:=k34) (e:=34) (base:=0) hl2 hF2) (fun _ hk_=>hk_.2))
   have HLX:=As.mk (show x.f1.length ≤ 1000000 ∧ (∀ d ∈ x.f1,d.f3.length ≤ 1000000) ∧ x.f2.length ≤ 1000000 ∧ ∀ d ∈ x.f2,d.f3.length ≤ 1000000 by
    have h_:=HVV.out x (by rw [hx];exact List.getElem_mem hlt)
    exact ⟨h_.1.1,h_.1.2,h_.2.1,h_.2.2⟩)
   have HNX:=As.mk (turnP_next l n x (by rw [hx];exact List.getElem?_eq_getElem hlt))
   have HX:=As.mk (show n < l.length ∧ l.length ≤ 1000000 from ⟨hlt,HL.out⟩)
   have c0_ : decide ((n : Int) < (l.length : Int)) = true:=decide_eq_true (by omega)
   have p1_ : ((n : Int) < (l.length : Int)) = True:=eq_true (by omega)
   have p2_ : (n < l.length) = True:=eq_true hlt
   have hw1 : wrap64 ((n : Int) + 1) = ((n + 1 : Nat) : Int):=by rw [IntWalk.wrap64_in _ (by have:=HX.out;omega)];omega
   clear hx hcc hF hF1 hF2 hl1 hl2 hV1 hlt p1
   go_upto_region 5 with (fail)
   have bk5:=blk_new wr (Obj.cells #[.string x.f0,.slice A1 x.f1.length c1,.slice A2 x.f2.length c2] 82)
   have hb_:=bA (Below.refl wr.heap.size wr) (Obj.cells #[.string x.f0,.slice A1 x.f1.length c1,.slice A2 x.f2.length c2] 82)
   generalize wr.alloc (Obj.cells #[.string x.f0,.slice A1 x.f1.length c1,.slice A2 x.f2.length c2] 82) = W1 at bk5 hb_ ⊢
   obtain ⟨g5,hg5⟩ : ∃ g5,g5 = wr.heap.size:=⟨_,rfl⟩
   rw [← hg5] at bk5 ⊢
   have hb2_:=bS hb_ (bD (Below.refl _ W1))
   have n_HB:=As.mk (bS HB.out hb2_)
   have n_HO:=As.mk (Kd.N_below HO.out hb2_)
   have n_HX1:=As.mk (Kd.V_below HX1.out hb2_)
   have n_HX2:=As.mk (Kd.V_below HX2.out hb2_)
   have b0 : W1.drew.cell? ⟨g5,0,none⟩ = some (.string x.f0):=(bC (kD bk5) 0).trans rfl
   have b1 : W1.drew.cell? ⟨g5,1,none⟩ = some (.slice A1 x.f1.length c1):=(bC (kD bk5) 1).trans rfl
   have b2 : W1.drew.cell? ⟨g5,2,none⟩ = some (.slice A2 x.f2.length c2):=(bC (kD bk5) 2).trans rfl
   clear HB HO HX1 HX2 hb_ hb2_ bk5 hg5 q0 q1 q2
   have HB:=n_HB
   have HO:=n_HO
   have HX1:=n_HX1
   have HX2:=n_HX2
   clear n_HB n_HO n_HX1 n_HX2
   refine start_ (n:=13) (S:=fun w'=>w'.cell? ⟨g5,0,none⟩ = some (.string x.f0) ∧ w'.cell? ⟨g5,1,none⟩ = some (.slice A1 x.f1.length c1) ∧ w'.cell? ⟨g5,2,none⟩ = some (.slice A2 x.f2.length c2)) (ds:=[11]) #[false,false,false,false,false,false,false,false,false,false,false,false,false] (by kernel_rfl) rfl rfl ⟨b0,b1,b2⟩ (fun hHeld=>?_);refine with_tabW diffturn.tab5 diffturn.bits5 (fun HT_ HW_=>?_)
   refine pure_ (i:=0) (N:=some 12) (v:=?_) (a':=?_) #[true,false,false,false,false,false,false,false,false,false,false,false,false] rfl rfl (any_of HT_.out (by kernel_rfl)) (fun _ _ _ h=>h) (Or.inl ⟨by rfl,?_⟩) ?_ ?_
   rotate_left
   ·intro w'
    go_simp
    with_reducible rfl
   rotate_left
   ·simp only [Act.put,List.setIfInBounds_toArray,List.set_cons_zero,List.set_cons_succ,i64_w,i32_w]
    rfl
   refine pure_ (i:=1) (N:=some 13) (v:=?_) (a':=?_) #[true,true,false,false,false,false,false,false,false,false,false,false,false] rfl rfl (any_of HT_.out (by kernel_rfl)) (fun _ _ _ h=>h) (Or.inl ⟨by rfl,?_⟩) ?_ ?_
   rotate_left
   ·intro w'
    go_simp
    with_reducible rfl
   rotate_left
   ·simp only [Act.put,List.setIfInBounds_toArray,List.set_cons_zero,List.set_cons_succ,i64_w,i32_w]
    rfl
   refine pure_ (i:=3) (N:=some 15) (v:=?_) (a':=?_) #[true,true,false,true,false,false,false,false,false,false,false,false,false] rfl rfl (any_of HT_.out (by kernel_rfl)) (fun _ _ _ h=>h) (Or.inl ⟨by rfl,?_⟩) ?_ ?_
   rotate_left
   ·intro w'
    go_simp
    with_reducible rfl
   rotate_left
   ·simp only [Act.put,List.setIfInBounds_toArray,List.set_cons_zero,List.set_cons_succ,i64_w,i32_w]
    rfl
   refine pure_ (i:=6) (N:=some 18) (v:=?_) (a':=?_) #[true,true,false,true,false,false,true,false,false,false,false,false,false] rfl rfl (any_of HT_.out (by kernel_rfl)) (fun _ _ _ h=>h) (Or.inl ⟨by rfl,?_⟩) ?_ ?_
   rotate_left
   ·intro w'
    go_simp
    with_reducible rfl
   rotate_left
   ·simp only [Act.put,List.setIfInBounds_toArray,List.set_cons_zero,List.set_cons_succ,i64_w,i32_w]
    rfl
   refine take_ (i:=2) (N:=some 14) (v:=?_) (a':=?_) #[true,true,true,true,false,false,true,false,false,false,false,false,false] rfl rfl (take_ofW HT_.out HW_.out (by kernel_rfl)) (fun _ _ _ h=>h) (Or.inl ⟨by rfl,?_⟩) hHeld ?_ ?_
   rotate_left
   ·rintro w' ⟨s0,s1,s2⟩
    go_simp
    with_reducible rfl
   rotate_left
   ·simp only [Act.put,List.setIfInBounds_toArray,List.set_cons_zero,List.set_cons_succ,i64_w,i32_w]
    rfl
   refine take_ (i:=4) (N:=some 16) (v:=?_) (a':=?_) #[true,true,true,true,true,false,true,false,false,false,false,false,false] rfl rfl (take_ofW HT_.out HW_.out (by kernel_rfl)) (fun _ _ _ h=>h) (Or.inl ⟨by rfl,?_⟩) hHeld ?_ ?_
   rotate_left
   ·rintro w' ⟨s0,s1,s2⟩
    go_simp
    with_reducible rfl
   rotate_left
   ·simp only [Act.put,List.setIfInBounds_toArray,List.set_cons_zero,List.set_cons_succ,i64_w,i32_w]
    rfl
   refine take_ (i:=7) (N:=some 19) (v:=?_) (a':=?_) #[true,true,true,true,true,false,true,true,false,false,false,false,false] rfl rfl (take_ofW HT_.out HW_.out (by kernel_rfl)) (fun _ _ _ h=>h) (Or.inl ⟨by rfl,?_⟩) hHeld ?_ ?_
   rotate_left
   ·rintro w' ⟨s0,s1,s2⟩
    go_simp
    with_reducible rfl
   rotate_left
   ·simp only [Act.put,List.setIfInBounds_toArray,List.set_cons_zero,List.set_cons_succ,i64_w,i32_w]
    rfl
   refine one_ (i:=5) (N:=some 17) #[true,true,true,true,true,true,true,true,false,false,false,false,false] rfl rfl (one_of HT_.out (by kernel_rfl)) (by decide) (fun K hK=>?_)
   refine goes_ Tryz.func71 (by kernel_rfl) rfl #[.slice A2 x.f2.length c2] (by rfl) rfl rfl (by (try simp only [List.map_toArray,List.map_cons,List.map_nil]);first | done | rfl | (simp only [List.length_drop,List.length_take];rfl)) ?_
   with_reducible refine (dclone_calls (fun k_=>k_ < w.heap.size) _ A2 c2 x.f2 HX2.out HLX.out.2.2.1 HLX.out.2.2.2).mono ?_
   rintro er wN ⟨vN,rfl,ho_,hb_⟩
   obtain ⟨AN,cN,rfl⟩:=Kd.N_slice ho_
   have HN:=As.mk (Kd.V_mono (ok':=fun k_=>True ∧ some k_ ≠ (u3 : Value).ownBlock) (Kd.N_V (base':=0) ho_) (fun k_ hk_=>⟨trivial,fun e_=>hk_.elim (fun h_=>Nat.lt_irrefl _ (Nat.lt_of_lt_of_le h_ (Kd.N_base HO.out k_ e_.symm))) (fun h_=>Nat.lt_irrefl _ (Nat.lt_of_lt_of_le (Kd.N_lt HO.out k_ e_.symm) h_))⟩))
   have n_HB:=As.mk (bS HB.out hb_)
   have n_HO:=As.mk (Kd.N_below HO.out hb_)
   have n_HX1:=As.mk (Kd.V_below HX1.out hb_)
   have b0:=pC hb_ b0;have b1:=pC hb_ b1;have b2:=pC hb_ b2
   clear HB HO ho_ hb_ HX1
   have HB:=n_HB
   have HO:=n_HO
   have HX1:=n_HX1
   clear n_HB n_HO n_HX1
   refine ⟨_,rfl,?_⟩
   refine hK.out _ _ ⟨b0,b1,b2⟩ (fun hHeld=>?_)
   clear hK K
   refine norm_ (a':=?_) ?_ ?_
   rotate_left
   ·show Act.put _ (some 17) _ = _
    simp only [Act.put,List.setIfInBounds_toArray,List.set_cons_zero,List.set_cons_succ,i64_w,i32_w]
    rfl
   refine one_ (i:=8) (N:=some 20) #[true,true,true,true,true,true,true,true,true,false,false,false,false] rfl rfl (one_of HT_.out (by kernel_rfl)) (by decide) (fun K hK=>?_)
   refine goes_ Tryz.func71 (by kernel_rfl) rfl #[.slice A1 x.f1.length c1] (by rfl) rfl rfl (by (try simp only [List.map_toArray,List.map_cons,List.map_nil]);first | done | rfl | (simp only [List.length_drop,List.length_take];rfl)) ?_
   with_reducible refine (dclone_calls (fun k_=>k_ < w.heap.size) _ A1 c1 x.f1 HX1.out HLX.out.1 HLX.out.2.1).mono ?_
   rintro er wO ⟨vO,rfl,ho_,hb_⟩
   obtain ⟨AO,cO,rfl⟩:=Kd.N_slice ho_
   have HD:=As.mk (Kd.V_mono (ok':=fun k_=>True ∧ some k_ ≠ (u3 : Value).ownBlock) (Kd.N_V (base':=0) ho_) (fun k_ hk_=>⟨trivial,fun e_=>hk_.elim (fun h_=>Nat.lt_irrefl _ (Nat.lt_of_lt_of_le h_ (Kd.N_base HO.out k_ e_.symm))) (fun h_=>Nat.lt_irrefl _ (Nat.lt_of_lt_of_le (Kd.N_lt HO.out k_ e_.symm) h_))⟩))
   have n_HB:=As.mk (bS HB.out hb_)
   have n_HO:=As.mk (Kd.N_below HO.out hb_)
   have n_HN:=As.mk (Kd.V_below HN.out hb_)
   have b0:=pC hb_ b0;have b1:=pC hb_ b1;have b2:=pC hb_ b2
   clear HB HO ho_ hb_ HN
   have HB:=n_HB
   have HO:=n_HO
   have HN:=n_HN
   clear n_HB n_HO n_HN
   refine ⟨_,rfl,?_⟩
   refine hK.out _ _ ⟨b0,b1,b2⟩ (fun hHeld=>?_)
   clear hK K
   refine norm_ (a':=?_) ?_ ?_
   rotate_left
   ·show Act.put _ (some 20) _ = _
    simp only [Act.put,List.setIfInBounds_toArray,List.set_cons_zero,List.set_cons_succ,i64_w,i32_w]
    rfl
   refine pure_ (i:=9) (N:=some 21) (v:=?_) (a':=?_) #[true,true,true,true,true,true,true,true,true,true,false,false,false] rfl rfl (any_of HT_.out (by kernel_rfl)) (fun _ _ _ h=>h) (Or.inl ⟨by rfl,?_⟩) ?_ ?_
   rotate_left
   ·intro w'
    go_simp
    with_reducible rfl
   rotate_left
   ·simp only [Act.put,List.setIfInBounds_toArray,List.set_cons_zero,List.set_cons_succ,i64_w,i32_w]
    rfl
   refine one_ (i:=10) (N:=some 22) #[true,true,true,true,true,true,true,true,true,true,true,false,false] rfl rfl (one_of HT_.out (by kernel_rfl)) (by decide) (fun K hK=>?_)
   refine value_ (w1:=?_) (v:=?_) (by rfl) rfl ?_ ?_
   rotate_left 2
   ·go_simp
    constructor
    ·rfl
    ·rfl
   refine hK.out _ _ ⟨(pC (bA (Below.refl _ _) _) b0),(pC (bA (Below.refl _ _) _) b1),(pC (bA (Below.refl _ _) _) b2)⟩ (fun hHeld=>?_)
   clear hK K
   refine norm_ (a':=?_) ?_ ?_
   rotate_left
   ·show Act.put _ (some 22) _ = _
    simp only [Act.put,List.setIfInBounds_toArray,List.set_cons_zero,List.set_cons_succ,i64_w,i32_w]
    rfl
   refine last_ (i:=11) (N:=some 23) #[true,true,true,true,true,true,true,true,true,true,true,true,false] rfl rfl (one_of HT_.out (by kernel_rfl)) (by decide) (fun K hK=>?_)
   refine Kd.N_append_step k82 (w0:=w) w.heap.size (by rfl) (.tmp 12) (.tmp 22) 44 82 (.agg #[(.string ⟨#[]⟩),(.slice none 0 0),(.slice none 0 0)]) 64 rfl Tryz.underlying44 info82 rfl (by decide) (by omega) u3 (turnP (l.take n)) (⟨x.f0,x.f2,x.f1⟩ : S82) [.string x.f0,.slice AN x.f2.length cN,.slice AO x.f1.length cO] (fun _=>True) (fun k_=>True ∧ some k_ ≠ (u3 : Value).ownBlock) rfl rfl ?aP (fun _ hk=>hk) (fun _ _=>trivial) HO.out HB.out HB.out.size ?aL ?_
   case aP=>exact k82_mkF _ _ (⟨x.f0,x.f2,x.f1⟩ : S82) (Kd.V_reads' HN.out).2.1 (Kd.V_F HN.out) (Kd.V_reads' HD.out).2.1 (Kd.V_F HD.out)
   case aL=>have h1_:=HX.out;have h2_:=turnP_len (l.take n);rw [List.length_take] at h2_;omega
   intro v23 w23 ho_ hb_ hg_ hat_
   have n_HO:=As.mk ho_
   have n_HB:=As.mk hb_
   clear HB HO HN HD HX1 ho_ hb_ hg_ hat_
   have HB:=n_HB
   have HO:=n_HO
   clear n_HB n_HO
   refine hK.out _ _ ?_
   clear hK K
   refine norm_ (a':=?_) ?_ ?_
   rotate_left
   ·show Act.put _ (some 23) _ = _
    simp only [Act.put,List.setIfInBounds_toArray,List.set_cons_zero,List.set_cons_succ,i64_w,i32_w]
    rfl
   refine pure_ (i:=12) (N:=some 3) (v:=?_) (a':=?_) #[true,true,true,true,true,true,true,true,true,true,true,true,true] rfl rfl (any_of HT_.out (by kernel_rfl)) (fun _ _ _ h=>h) (Or.inl ⟨by rfl,?_⟩) ?_ ?_
   rotate_left
   ·intro w'
    go_simp
    with_reducible rfl
   rotate_left
   ·simp only [Act.put,List.setIfInBounds_toArray,List.set_cons_zero,List.set_cons_succ,i64_w,i32_w]
    rfl
   refine done_ (done_of HT_.out (by kernel_rfl)) ?_
   rw [← HNX.out] at HO
   go_wp2_with (fail)
   go_roundg (gk - 1)
   case measure=>have:=HKQ.out;have:=HX.out;omega
   case rel=>exact ⟨n + 1,(by first | rfl | rw [hw1]),HX.out.1,⟨by have:=HKQ.out;have:=HX.out;omega⟩,HO,HB⟩
end Go.Proofs.YtmlebgikdegjjaaGreatDoor.Hd
