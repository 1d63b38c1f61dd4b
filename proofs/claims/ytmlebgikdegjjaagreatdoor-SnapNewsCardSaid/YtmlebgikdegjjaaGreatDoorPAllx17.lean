import Derived.Test.YtmlebgikdegjjaaGreatDoorPAllx0
import Derived.Test.YtmlebgikdegjjaaGreatDoorPAllx16
set_option maxHeartbeats 8000000
set_option maxRecDepth 100000
namespace Go.Proofs.YtmlebgikdegjjaaGreatDoor.PAll
open Go.RowKit Go.Proofs.YtmlebgikdegjjaaGreatDoorW.PrintWords Go.Proofs.YtmlebgikdegjjaaGreatDoorW.PrintLast Go.Proofs.YtmlebgikdegjjaaGreatDoorW.PrintMore
attribute [local go_sem] max2_int min2_int max_two min_two max_three min_three max_four min_four   -- for this text's walks alone
set_option linter.unusedVariables false
set_option linter.unusedSimpArgs false
/-! ### r07_Octets: function 81 -/
def r07_Octets.f (k : Nat) (a0_0 : Int) (a0_1 : ByteArray) (a0_2 : ByteArray) (l0_3 : List ByteArray) (a0_4 : ByteArray) (a0_5 : ByteArray) : Option (ByteArray):=(r01_Num.f k a0_0).bind fun bt414=>(if a0_0 = 1 then ((r01_Text.f k a0_1).bind fun t416=>(if bt414.1.size + t416.size ≤ 9223372036854775807 then ((r01_Text.f k a0_2).bind fun t417=>(if (bt414.1 ++ t416).size + t417.size ≤ 9223372036854775807 then ((r01_Texts.f k l0_3).bind fun t418=>(if ((bt414.1 ++ t416) ++ t417).size + t418.size ≤ 9223372036854775807 then (some (((bt414.1 ++ t416) ++ t417) ++ t418)) else (none))) else (none))) else (none))) else ((r01_Text.f k a0_1).bind fun t419=>(if bt414.1.size + t419.size ≤ 9223372036854775807 then ((r01_Text.f k a0_4).bind fun t420=>(if (bt414.1 ++ t419).size + t420.size ≤ 9223372036854775807 then ((r01_Text.f k a0_5).bind fun t421=>(if ((bt414.1 ++ t419) ++ t420).size + t421.size ≤ 9223372036854775807 then (some (((bt414.1 ++ t419) ++ t420) ++ t421)) else (none))) else (none))) else (none))))
theorem r07_Octets.mono : ∀ a0 a1 a2 a3 a4 a5 k,LeO (r07_Octets.f k a0 a1 a2 a3 a4 a5) (r07_Octets.f (k + 1) a0 a1 a2 a3 a4 a5):=by
 intro a0 a1 a2 a3 a4 a5 k
 unfold r07_Octets.f
 repeat' first
   | (with_reducible exact r01_Num.mono _ _)
   | (with_reducible exact r01_Text.mono _ _)
   | (with_reducible exact r01_Texts.mono _ _)
   | (with_reducible exact LeO.refl _)
   | (with_reducible exact LeO.none _)
   | (with_reducible refine LeO.ite ?_ ?_)
   | (with_reducible refine LeO.bind ?_ (fun _=>?_))
   | exact r01_Num.mono _ _
   | exact r01_Text.mono _ _
   | exact r01_Texts.mono _ _
   | exact LeO.none _
   | refine LeO.ite ?_ ?_
   | refine LeO.bind ?_ (fun _=>?_)
def r07_Octets.T3 : Bool × List (List Nat × List Nat):=(true,[([],[]),([],[]),([1],[1]),([2],[2]),([0,3],[0,3]),([],[]),([5],[5]),([6,3],[6]),([4,7],[4,7]),([],[]),([9],[9]),([10,7],[10]),([8,11],[8,11]),([12,11,0,1,2,3,4,5,6,7,8,9,10,11,12],[12])])
def r07_Octets.B3 : List Nat:=[0,0,2,6,15,0,32,110,255,0,512,1774,4095,8191]
theorem r07_Octets.tab3 : rtab .any (opsOf Tryz.f81 3) = r07_Octets.T3:=by kernel_rfl
theorem r07_Octets.bits3 : waitsOk r07_Octets.T3.2 r07_Octets.B3 = true:=by kernel_rfl
def r07_Octets.T4 : Bool × List (List Nat × List Nat):=(true,[([],[]),([],[]),([1],[1]),([2],[2]),([0,3],[0,3]),([],[]),([5],[5]),([6,3],[6]),([4,7],[4,7]),([],[]),([9],[9]),([10,7],[10]),([8,11],[8,11]),([12,11,0,1,2,3,4,5,6,7,8,9,10,11,12],[12])])
def r07_Octets.B4 : List Nat:=[0,0,2,6,15,0,32,110,255,0,512,1774,4095,8191]
theorem r07_Octets.tab4 : rtab .any (opsOf Tryz.f81 4) = r07_Octets.T4:=by kernel_rfl
theorem r07_Octets.bits4 : waitsOk r07_Octets.T4.2 r07_Octets.B4 = true:=by kernel_rfl
theorem r07_Octets.calls (k : Nat) (a0_0 : Int) (a0_1 : ByteArray) (a0_2 : ByteArray) (A0_3 : Option Addr) (c0_3 : Nat) (l0_3 : List ByteArray) (a0_4 : ByteArray) (a0_5 : ByteArray) (r : ByteArray) (w : World) (hr0_3 : Kd.C Kd.string w A0_3 l0_3.length l0_3) (hc0_3 : l0_3.length ≤ c0_3) (h : r07_Octets.f k a0_0 a0_1 a0_2 l0_3 a0_4 a0_5 = some r) :
  Calls Tryz.prog 81 #[.agg #[.int .i64 a0_0,.string a0_1,.string a0_2,.slice A0_3 l0_3.length c0_3,.string a0_4,.string a0_5]] w fun e w'=>e = .returned (.string r) ∧ Below w.heap.size w w':=by
 have hu34:=Tryz.underlying34
 have HR0_3:=As.mk hr0_3
 have HC0_3:=As.mk hc0_3
 clear hr0_3 hc0_3
 have HB:=As.mk (Below.refl w.heap.size w)
 have H : ((r01_Num.f k a0_0).bind fun bt414=>(if a0_0 = 1 then ((r01_Text.f k a0_1).bind fun t416=>(if bt414.1.size + t416.size ≤ 9223372036854775807 then ((r01_Text.f k a0_2).bind fun t417=>(if (bt414.1 ++ t416).size + t417.size ≤ 9223372036854775807 then ((r01_Texts.f k l0_3).bind fun t418=>(if ((bt414.1 ++ t416) ++ t417).size + t418.size ≤ 9223372036854775807 then (some (((bt414.1 ++ t416) ++ t417) ++ t418)) else (none))) else (none))) else (none))) else ((r01_Text.f k a0_1).bind fun t419=>(if bt414.1.size + t419.size ≤ 9223372036854775807 then ((r01_Text.f k a0_4).bind fun t420=>(if (bt414.1 ++ t419).size + t420.size ≤ 9223372036854775807 then ((r01_Text.f k a0_5).bind fun t421=>(if ((bt414.1 ++ t419) ++ t420).size + t421.size ≤ 9223372036854775807 then (some (((bt414.1 ++ t419) ++ t420) ++ t421)) else (none))) else (none))) else (none))))) = some r:=h
 clear h
 replace H:=Option.bind_eq_some_iff.mp H
 obtain ⟨⟨t414,t415⟩,A20,H⟩:=H
 replace H : (if a0_0 = 1 then ((r01_Text.f k a0_1).bind fun t416=>(if t414.size + t416.size ≤ 9223372036854775807 then ((r01_Text.f k a0_2).bind fun t417=>(if (t414 ++ t416).size + t417.size ≤ 9223372036854775807 then ((r01_Texts.f k l0_3).bind fun t418=>(if ((t414 ++ t416) ++ t417).size + t418.size ≤ 9223372036854775807 then (some (((t414 ++ t416) ++ t417) ++ t418)) else (none))) else (none))) else (none))) else ((r01_Text.f k a0_1).bind fun t419=>(if t414.size + t419.size ≤ 9223372036854775807 then ((r01_Text.f k a0_4).bind fun t420=>(if (t414 ++ t419).size + t420.size ≤ 9223372036854775807 then ((r01_Text.f k a0_5).bind fun t421=>(if ((t414 ++ t419) ++ t420).size + t421.size ≤ 9223372036854775807 then (some (((t414 ++ t419) ++ t420) ++ t421)) else (none))) else (none))) else (none)))) = some r:=H
 have A2:=As.mk A20
 clear A20
 by_cases c3 : a0_0 = 1
 ·rw [if_pos c3] at H
  have c3b0 : (a0_0 == 1) = true:=beq_iff_eq.mpr c3
  have c3b1 : (a0_0 != 1) = false:=bne_eq_false_iff_eq.mpr c3
  clear c3
  replace H:=Option.bind_eq_some_iff.mp H
  obtain ⟨t416,A40,H⟩:=H
  replace H : (if t414.size + t416.size ≤ 9223372036854775807 then ((r01_Text.f k a0_2).bind fun t417=>(if (t414 ++ t416).size + t417.size ≤ 9223372036854775807 then ((r01_Texts.f k l0_3).bind fun t418=>(if ((t414 ++ t416) ++ t417).size + t418.size ≤ 9223372036854775807 then (some (((t414 ++ t416) ++ t417) ++ t418)) else (none))) else (none))) else (none)) = some r:=H
  have A4:=As.mk A40
  clear A40
  by_cases c5 : t414.size + t416.size ≤ 9223372036854775807
  ·rw [if_pos c5] at H
   have c5b0:=eq_true c5
   have c5b1 : decide (t414.size + t416.size ≤ 9223372036854775807) = true:=decide_eq_true c5
   try have c5b2 : (9223372036854775807 < t414.size + t416.size) = False:=eq_false (Nat.not_lt.2 c5)
   replace H:=Option.bind_eq_some_iff.mp H
   obtain ⟨t417,A60,H⟩:=H
   replace H : (if (t414 ++ t416).size + t417.size ≤ 9223372036854775807 then ((r01_Texts.f k l0_3).bind fun t418=>(if ((t414 ++ t416) ++ t417).size + t418.size ≤ 9223372036854775807 then (some (((t414 ++ t416) ++ t417) ++ t418)) else (none))) else (none)) = some r:=H
   have A6:=As.mk A60
   clear A60
   by_cases c7 : (t414 ++ t416).size + t417.size ≤ 9223372036854775807
   ·rw [if_pos c7] at H
    have c7b0:=eq_true c7
    have c7b1 : decide ((t414 ++ t416).size + t417.size ≤ 9223372036854775807) = true:=decide_eq_true c7
    try have c7b2 : (9223372036854775807 < (t414 ++ t416).size + t417.size) = False:=eq_false (Nat.not_lt.2 c7)
    try (have c7b3:=c7b2;simp only [ByteArray.size_append] at c7b3)
    replace H:=Option.bind_eq_some_iff.mp H
    obtain ⟨t418,A80,H⟩:=H
    replace H : (if ((t414 ++ t416) ++ t417).size + t418.size ≤ 9223372036854775807 then (some (((t414 ++ t416) ++ t417) ++ t418)) else (none)) = some r:=H
    have A8:=As.mk A80
    clear A80
    by_cases c9 : ((t414 ++ t416) ++ t417).size + t418.size ≤ 9223372036854775807
    ·rw [if_pos c9] at H
     have c9b0:=eq_true c9
     have c9b1 : decide (((t414 ++ t416) ++ t417).size + t418.size ≤ 9223372036854775807) = true:=decide_eq_true c9
     try have c9b2 : (9223372036854775807 < ((t414 ++ t416) ++ t417).size + t418.size) = False:=eq_false (Nat.not_lt.2 c9)
     try (have c9b3:=c9b2;simp only [ByteArray.size_append] at c9b3)
     obtain rfl:=Option.some.inj H
     go_enter Tryz.func81,Tryz.ntmps81
     try go_wp2_with (first | ((with_reducible refine gate_dst (N:=1) rfl ?_);refine box_event ?hg (N:=1) ?hd (cs:=#[.int .i64 a0_0,.string a0_1,.string a0_2,.slice A0_3 l0_3.length c0_3,.string a0_4,.string a0_5]) (t:=34) ?hr ?_;(case hd=>rfl);(case hg=>rfl);(case hr=>first | (go_simp;done) | (go_simp;rfl));intro gb413 hg w10 hbox hb;have n0_:=As.mk (bS (by repeat (first | (with_reducible first | exact HB.out | apply bA | apply bN | apply bD) | exact HB.out)) hb);have n1_:=As.mk (hbox);have n2_:=As.mk ((by rw [hg];exact (bZ (by repeat (first | (with_reducible first | exact HB.out | apply bA | apply bN | apply bD) | exact HB.out))) : w.heap.size ≤ gb413));have n3_:=As.mk ((by rw [hg];exact (bZ (by repeat (first | (with_reducible first | exact HB.out | apply bA | apply bN | apply bD) | exact HB.out))) : w.heap.size ≤ gb413));clear HB;have HB:=n0_;have BK413:=n1_;have GW413:=n2_;have GE413:=n3_;clear n0_ n1_ n2_ n3_;clear hb hbox hg;have hcz11_0 : w10.cell? ⟨gb413,0,none⟩ = some (.int .i64 a0_0):=(bC BK413.out 0).trans rfl;have hcz11_1 : w10.cell? ⟨gb413,1,none⟩ = some (.string a0_1):=(bC BK413.out 1).trans rfl;have hcz11_2 : w10.cell? ⟨gb413,2,none⟩ = some (.string a0_2):=(bC BK413.out 2).trans rfl;have hcz11_3 : w10.cell? ⟨gb413,3,none⟩ = some (.slice A0_3 l0_3.length c0_3):=(bC BK413.out 3).trans rfl;have hcz11_4 : w10.cell? ⟨gb413,4,none⟩ = some (.string a0_4):=(bC BK413.out 4).trans rfl;have hcz11_5 : w10.cell? ⟨gb413,5,none⟩ = some (.string a0_5):=(bC BK413.out 5).trans rfl;have hfz11_0:=bF BK413.out 0;have hfz11_1:=bF BK413.out 1;have hfz11_2:=bF BK413.out 2;have hfz11_3:=bF BK413.out 3;have hfz11_4:=bF BK413.out 4;have hfz11_5:=bF BK413.out 5) | ((with_reducible refine gC (f:=80) rfl ?_);refine goesL_ (some 8) rfl rfl Tryz.func80 (by kernel_rfl) rfl #[.int .i64 a0_0] rfl (by (try simp only [List.map_toArray,List.map_cons,List.map_nil]);first | done | rfl | (simp only [List.length_drop,List.length_take];rfl)) ?_;(with_reducible refine (r01_Num.calls k a0_0 t414 t415 _ A2.out).mono ?_);rintro e w12 ⟨rfl,hb⟩;refine ⟨_,rfl,?_⟩;have n0_:=As.mk (blk_below (g:=gb413) (o:=.cells #[.int .i64 a0_0,.string a0_1,.string a0_2,.slice A0_3 l0_3.length c0_3,.string a0_4,.string a0_5] 34 (0,0)) (by (with_reducible repeat (first | refine kN ?_ _ | refine kD ?_ | refine kA ?_ _));exact BK413.out) hb);have n1_:=As.mk (bS (by repeat (first | (with_reducible first | exact HB.out | apply bA | apply bN | apply bD | refine bT ?_ GE413.out) | exact HB.out)) hb);clear BK413;clear HB;have BK413:=n0_;have HB:=n1_;clear n0_ n1_;(try clear hb);(try clear hb2);(try clear hk);(try clear hi);have hcz13_0 : w12.cell? ⟨gb413,0,none⟩ = some (.int .i64 a0_0):=(bC BK413.out 0).trans rfl;have hcz13_1 : w12.cell? ⟨gb413,1,none⟩ = some (.string a0_1):=(bC BK413.out 1).trans rfl;have hcz13_2 : w12.cell? ⟨gb413,2,none⟩ = some (.string a0_2):=(bC BK413.out 2).trans rfl;have hcz13_3 : w12.cell? ⟨gb413,3,none⟩ = some (.slice A0_3 l0_3.length c0_3):=(bC BK413.out 3).trans rfl;have hcz13_4 : w12.cell? ⟨gb413,4,none⟩ = some (.string a0_4):=(bC BK413.out 4).trans rfl;have hcz13_5 : w12.cell? ⟨gb413,5,none⟩ = some (.string a0_5):=(bC BK413.out 5).trans rfl;have hfz13_0:=bF BK413.out 0;have hfz13_1:=bF BK413.out 1;have hfz13_2:=bF BK413.out 2;have hfz13_3:=bF BK413.out 3;have hfz13_4:=bF BK413.out 4;have hfz13_5:=bF BK413.out 5))
     have n0_:=As.mk (kD BK413.out)
     have n1_:=As.mk (bD HB.out)
     clear BK413
     clear HB
     have BK413:=n0_
     have HB:=n1_
     clear n0_ n1_
     refine start_ (n:=14) (S:=fun w'=>w'.cell? ⟨gb413,0,none⟩ = some (.int .i64 a0_0) ∧ w'.cell? ⟨gb413,1,none⟩ = some (.string a0_1) ∧ w'.cell? ⟨gb413,2,none⟩ = some (.string a0_2) ∧ w'.cell? ⟨gb413,3,none⟩ = some (.slice A0_3 l0_3.length c0_3) ∧ w'.cell? ⟨gb413,4,none⟩ = some (.string a0_4) ∧ w'.cell? ⟨gb413,5,none⟩ = some (.string a0_5)) (ds:=[]) #[false,false,false,false,false,false,false,false,false,false,false,false,false,false] (by kernel_rfl) rfl rfl ⟨(bC BK413.out 0).trans rfl,(bC BK413.out 1).trans rfl,(bC BK413.out 2).trans rfl,(bC BK413.out 3).trans rfl,(bC BK413.out 4).trans rfl,(bC BK413.out 5).trans rfl⟩ (fun hHeld=>?_);refine with_tabW r07_Octets.tab3 r07_Octets.bits3 (fun HT_ HW_=>?_)
     generalize w12.drew = w14 at BK413 HB hHeld ⊢
     refine pure_ (i:=0) (N:=some 14) (v:=?_) (a':=?_) #[true,false,false,false,false,false,false,false,false,false,false,false,false,false] rfl rfl (any_of HT_.out (by kernel_rfl)) (fun _ _ _ h=>h) (Or.inl ⟨by rfl,?_⟩) ?_ ?_
     rotate_left
     ·intro w'
      go_simp
      with_reducible rfl
     rotate_left
     ·simp only [Act.put,List.setIfInBounds_toArray,List.set_cons_zero,List.set_cons_succ,i64_w,i32_w]
      rfl
     refine pure_ (i:=1) (N:=some 15) (v:=?_) (a':=?_) #[true,true,false,false,false,false,false,false,false,false,false,false,false,false] rfl rfl (any_of HT_.out (by kernel_rfl)) (fun _ _ _ h=>h) (Or.inl ⟨by rfl,?_⟩) ?_ ?_
     rotate_left
     ·intro w'
      go_simp
      with_reducible rfl
     rotate_left
     ·simp only [Act.put,List.setIfInBounds_toArray,List.set_cons_zero,List.set_cons_succ,i64_w,i32_w]
      rfl
     refine pure_ (i:=5) (N:=some 19) (v:=?_) (a':=?_) #[true,true,false,false,false,true,false,false,false,false,false,false,false,false] rfl rfl (any_of HT_.out (by kernel_rfl)) (fun _ _ _ h=>h) (Or.inl ⟨by rfl,?_⟩) ?_ ?_
     rotate_left
     ·intro w'
      go_simp
      with_reducible rfl
     rotate_left
     ·simp only [Act.put,List.setIfInBounds_toArray,List.set_cons_zero,List.set_cons_succ,i64_w,i32_w]
      rfl
     refine pure_ (i:=9) (N:=some 23) (v:=?_) (a':=?_) #[true,true,false,false,false,true,false,false,false,true,false,false,false,false] rfl rfl (any_of HT_.out (by kernel_rfl)) (fun _ _ _ h=>h) (Or.inl ⟨by rfl,?_⟩) ?_ ?_
     rotate_left
     ·intro w'
      go_simp
      with_reducible rfl
     rotate_left
     ·simp only [Act.put,List.setIfInBounds_toArray,List.set_cons_zero,List.set_cons_succ,i64_w,i32_w]
      rfl
     refine take_ (i:=2) (N:=some 16) (v:=?_) (a':=?_) #[true,true,true,false,false,true,false,false,false,true,false,false,false,false] rfl rfl (take_ofW HT_.out HW_.out (by kernel_rfl)) (fun _ _ _ h=>h) (Or.inl ⟨by rfl,?_⟩) hHeld ?_ ?_
     rotate_left
     ·rintro w' ⟨s0,s1,s2,s3,s4,s5⟩
      go_simp
      with_reducible rfl
     rotate_left
     ·simp only [Act.put,List.setIfInBounds_toArray,List.set_cons_zero,List.set_cons_succ,i64_w,i32_w]
      rfl
     refine take_ (i:=6) (N:=some 20) (v:=?_) (a':=?_) #[true,true,true,false,false,true,true,false,false,true,false,false,false,false] rfl rfl (take_ofW HT_.out HW_.out (by kernel_rfl)) (fun _ _ _ h=>h) (Or.inl ⟨by rfl,?_⟩) hHeld ?_ ?_
     rotate_left
     ·rintro w' ⟨s0,s1,s2,s3,s4,s5⟩
      go_simp
      with_reducible rfl
     rotate_left
     ·simp only [Act.put,List.setIfInBounds_toArray,List.set_cons_zero,List.set_cons_succ,i64_w,i32_w]
      rfl
     refine take_ (i:=10) (N:=some 24) (v:=?_) (a':=?_) #[true,true,true,false,false,true,true,false,false,true,true,false,false,false] rfl rfl (take_ofW HT_.out HW_.out (by kernel_rfl)) (fun _ _ _ h=>h) (Or.inl ⟨by rfl,?_⟩) hHeld ?_ ?_
     rotate_left
     ·rintro w' ⟨s0,s1,s2,s3,s4,s5⟩
      go_simp
      with_reducible rfl
     rotate_left
     ·simp only [Act.put,List.setIfInBounds_toArray,List.set_cons_zero,List.set_cons_succ,i64_w,i32_w]
      rfl
     refine one_ (i:=3) (N:=some 17) #[true,true,true,true,false,true,true,false,false,true,true,false,false,false] rfl rfl (one_of HT_.out (by kernel_rfl)) (by decide) (fun K hK=>?_)
     refine goes_ Tryz.func122 (by kernel_rfl) rfl #[.string a0_1] (by rfl) rfl rfl (by (try simp only [List.map_toArray,List.map_cons,List.map_nil]);first | done | rfl | (simp only [List.length_drop,List.length_take];rfl)) ?_
     with_reducible refine (r01_Text.calls k a0_1 t416 _ A4.out).mono ?_
     rintro e w15 ⟨rfl,hb⟩
     refine ⟨_,rfl,?_⟩
     have n0_:=As.mk (blk_below (g:=gb413) (o:=.cells #[.int .i64 a0_0,.string a0_1,.string a0_2,.slice A0_3 l0_3.length c0_3,.string a0_4,.string a0_5] 34 (0,0)) (by (with_reducible repeat (first | refine kN ?_ _ | refine kD ?_ | refine kA ?_ _));exact BK413.out) hb)
     have n1_:=As.mk (bS (by repeat (first | (with_reducible first | exact HB.out | apply bA | apply bN | apply bD | refine bT ?_ GE413.out) | exact HB.out)) hb)
     clear BK413
     clear HB
     have BK413:=n0_
     have HB:=n1_
     clear n0_ n1_
     (try clear hb)
     (try clear hb2)
     (try clear hk)
     (try clear hi)
     refine hK.out _ _ ⟨(bC BK413.out 0).trans rfl,(bC BK413.out 1).trans rfl,(bC BK413.out 2).trans rfl,(bC BK413.out 3).trans rfl,(bC BK413.out 4).trans rfl,(bC BK413.out 5).trans rfl⟩ (fun hHeld=>?_)
     clear hK K
     refine norm_ (a':=?_) ?_ ?_
     rotate_left
     ·show Act.put _ (some 17) _ = _
      simp only [Act.put,List.setIfInBounds_toArray,List.set_cons_zero,List.set_cons_succ,i64_w,i32_w]
      rfl
     refine pure_ (i:=4) (N:=some 18) (v:=?_) (a':=?_) #[true,true,true,true,true,true,true,false,false,true,true,false,false,false] rfl rfl (any_of HT_.out (by kernel_rfl)) (fun _ _ _ h=>h) (Or.inl ⟨by rfl,?_⟩) ?_ ?_
     rotate_left
     ·intro w'
      go_simp
      with_reducible rfl
     rotate_left
     ·simp only [Act.put,List.setIfInBounds_toArray,List.set_cons_zero,List.set_cons_succ,i64_w,i32_w]
      rfl
     refine one_ (i:=7) (N:=some 21) #[true,true,true,true,true,true,true,true,false,true,true,false,false,false] rfl rfl (one_of HT_.out (by kernel_rfl)) (by decide) (fun K hK=>?_)
     refine goes_ Tryz.func122 (by kernel_rfl) rfl #[.string a0_2] (by rfl) rfl rfl (by (try simp only [List.map_toArray,List.map_cons,List.map_nil]);first | done | rfl | (simp only [List.length_drop,List.length_take];rfl)) ?_
     with_reducible refine (r01_Text.calls k a0_2 t417 _ A6.out).mono ?_
     rintro e w16 ⟨rfl,hb⟩
     refine ⟨_,rfl,?_⟩
     have n0_:=As.mk (blk_below (g:=gb413) (o:=.cells #[.int .i64 a0_0,.string a0_1,.string a0_2,.slice A0_3 l0_3.length c0_3,.string a0_4,.string a0_5] 34 (0,0)) (by (with_reducible repeat (first | refine kN ?_ _ | refine kD ?_ | refine kA ?_ _));exact BK413.out) hb)
     have n1_:=As.mk (bS (by repeat (first | (with_reducible first | exact HB.out | apply bA | apply bN | apply bD | refine bT ?_ GE413.out) | exact HB.out)) hb)
     clear BK413
     clear HB
     have BK413:=n0_
     have HB:=n1_
     clear n0_ n1_
     (try clear hb)
     (try clear hb2)
     (try clear hk)
     (try clear hi)
     refine hK.out _ _ ⟨(bC BK413.out 0).trans rfl,(bC BK413.out 1).trans rfl,(bC BK413.out 2).trans rfl,(bC BK413.out 3).trans rfl,(bC BK413.out 4).trans rfl,(bC BK413.out 5).trans rfl⟩ (fun hHeld=>?_)
     clear hK K
     refine norm_ (a':=?_) ?_ ?_
     rotate_left
     ·show Act.put _ (some 21) _ = _
      simp only [Act.put,List.setIfInBounds_toArray,List.set_cons_zero,List.set_cons_succ,i64_w,i32_w]
      rfl
     refine pure_ (i:=8) (N:=some 22) (v:=?_) (a':=?_) #[true,true,true,true,true,true,true,true,true,true,true,false,false,false] rfl rfl (any_of HT_.out (by kernel_rfl)) (fun _ _ _ h=>h) (Or.inl ⟨by rfl,?_⟩) ?_ ?_
     rotate_left
     ·intro w'
      go_simp
      with_reducible rfl
     rotate_left
     ·simp only [Act.put,List.setIfInBounds_toArray,List.set_cons_zero,List.set_cons_succ,i64_w,i32_w]
      rfl
     refine one_ (i:=11) (N:=some 25) #[true,true,true,true,true,true,true,true,true,true,true,true,false,false] rfl rfl (one_of HT_.out (by kernel_rfl)) (by decide) (fun K hK=>?_)
     refine goes_ Tryz.func123 (by kernel_rfl) rfl #[.slice A0_3 l0_3.length c0_3] (by rfl) rfl rfl (by (try simp only [List.map_toArray,List.map_cons,List.map_nil]);first | done | rfl | (simp only [List.length_drop,List.length_take];rfl)) ?_
     with_reducible refine (r01_Texts.calls k _ _ l0_3 t418 _ ?side1 ?side2 A8.out).mono ?_
     (case side1=>repeat (first | exact (Kd.C_below HR0_3.out HB.out) | (with_reducible refine Kd.C_alloc ?_ _) | (with_reducible refine Kd.C_drewN ?_ _) | (with_reducible refine Kd.C_drew ?_)))
     (case side2=>exact HC0_3.out)
     rintro e w17 ⟨rfl,hb⟩
     refine ⟨_,rfl,?_⟩
     have n0_:=As.mk (blk_below (g:=gb413) (o:=.cells #[.int .i64 a0_0,.string a0_1,.string a0_2,.slice A0_3 l0_3.length c0_3,.string a0_4,.string a0_5] 34 (0,0)) (by (with_reducible repeat (first | refine kN ?_ _ | refine kD ?_ | refine kA ?_ _));exact BK413.out) hb)
     have n1_:=As.mk (bS (by repeat (first | (with_reducible first | exact HB.out | apply bA | apply bN | apply bD | refine bT ?_ GE413.out) | exact HB.out)) hb)
     clear BK413
     clear HB
     have BK413:=n0_
     have HB:=n1_
     clear n0_ n1_
     (try clear hb)
     (try clear hb2)
     (try clear hk)
     (try clear hi)
     refine hK.out _ _ ⟨(bC BK413.out 0).trans rfl,(bC BK413.out 1).trans rfl,(bC BK413.out 2).trans rfl,(bC BK413.out 3).trans rfl,(bC BK413.out 4).trans rfl,(bC BK413.out 5).trans rfl⟩ (fun hHeld=>?_)
     clear hK K
     refine norm_ (a':=?_) ?_ ?_
     rotate_left
     ·show Act.put _ (some 25) _ = _
      simp only [Act.put,List.setIfInBounds_toArray,List.set_cons_zero,List.set_cons_succ,i64_w,i32_w]
      rfl
     refine pure_ (i:=12) (N:=some 26) (v:=?_) (a':=?_) #[true,true,true,true,true,true,true,true,true,true,true,true,true,false] rfl rfl (any_of HT_.out (by kernel_rfl)) (fun _ _ _ h=>h) (Or.inl ⟨by rfl,?_⟩) ?_ ?_
     rotate_left
     ·intro w'
      go_simp
      with_reducible rfl
     rotate_left
     ·simp only [Act.put,List.setIfInBounds_toArray,List.set_cons_zero,List.set_cons_succ,i64_w,i32_w]
      rfl
     refine pure_ (i:=13) (N:=some 2) (v:=?_) (a':=?_) #[true,true,true,true,true,true,true,true,true,true,true,true,true,true] rfl rfl (any_of HT_.out (by kernel_rfl)) (fun _ _ _ h=>h) (Or.inl ⟨by rfl,?_⟩) ?_ ?_
     rotate_left
     ·intro w'
      go_simp
      with_reducible rfl
     rotate_left
     ·simp only [Act.put,List.setIfInBounds_toArray,List.set_cons_zero,List.set_cons_succ,i64_w,i32_w]
      rfl
     refine done_ (done_of HT_.out (by kernel_rfl)) ?_
     try go_wp2
     go_ret
     exact ⟨by first | rfl | (simp [eN,eS] <;> rfl) | (simp [*,eN,eS] <;> rfl),by repeat (first | (with_reducible first | exact HB.out | apply bA | apply bN | apply bD | refine bT ?_ GE413.out) | exact HB.out)⟩
    ·rw [if_neg c9] at H
     exact absurd H (by simp)
   ·rw [if_neg c7] at H
    exact absurd H (by simp)
  ·rw [if_neg c5] at H
   exact absurd H (by simp)
 ·rw [if_neg c3] at H
  have c3b0 : (a0_0 == 1) = false:=beq_eq_false_iff_ne.mpr c3
  have c3b1 : (a0_0 != 1) = true:=bne_iff_ne.mpr c3
  replace H:=Option.bind_eq_some_iff.mp H
  obtain ⟨t419,A180,H⟩:=H
  replace H : (if t414.size + t419.size ≤ 9223372036854775807 then ((r01_Text.f k a0_4).bind fun t420=>(if (t414 ++ t419).size + t420.size ≤ 9223372036854775807 then ((r01_Text.f k a0_5).bind fun t421=>(if ((t414 ++ t419) ++ t420).size + t421.size ≤ 9223372036854775807 then (some (((t414 ++ t419) ++ t420) ++ t421)) else (none))) else (none))) else (none)) = some r:=H
  have A18:=As.mk A180
  clear A180
  by_cases c19 : t414.size + t419.size ≤ 9223372036854775807
  ·rw [if_pos c19] at H
   have c19b0:=eq_true c19
   have c19b1 : decide (t414.size + t419.size ≤ 9223372036854775807) = true:=decide_eq_true c19
   try have c19b2 : (9223372036854775807 < t414.size + t419.size) = False:=eq_false (Nat.not_lt.2 c19)
   replace H:=Option.bind_eq_some_iff.mp H
   obtain ⟨t420,A200,H⟩:=H
   replace H : (if (t414 ++ t419).size + t420.size ≤ 9223372036854775807 then ((r01_Text.f k a0_5).bind fun t421=>(if ((t414 ++ t419) ++ t420).size + t421.size ≤ 9223372036854775807 then (some (((t414 ++ t419) ++ t420) ++ t421)) else (none))) else (none)) = some r:=H
   have A20:=As.mk A200
   clear A200
   by_cases c21 : (t414 ++ t419).size + t420.size ≤ 9223372036854775807
   ·rw [if_pos c21] at H
    have c21b0:=eq_true c21
    have c21b1 : decide ((t414 ++ t419).size + t420.size ≤ 9223372036854775807) = true:=decide_eq_true c21
    try have c21b2 : (9223372036854775807 < (t414 ++ t419).size + t420.size) = False:=eq_false (Nat.not_lt.2 c21)
    try (have c21b3:=c21b2;simp only [ByteArray.size_append] at c21b3)
    replace H:=Option.bind_eq_some_iff.mp H
    obtain ⟨t421,A220,H⟩:=H
    replace H : (if ((t414 ++ t419) ++ t420).size + t421.size ≤ 9223372036854775807 then (some (((t414 ++ t419) ++ t420) ++ t421)) else (none)) = some r:=H
    have A22:=As.mk A220
    clear A220
    by_cases c23 : ((t414 ++ t419) ++ t420).size + t421.size ≤ 9223372036854775807
    ·rw [if_pos c23] at H
     have c23b0:=eq_true c23
     have c23b1 : decide (((t414 ++ t419) ++ t420).size + t421.size ≤ 9223372036854775807) = true:=decide_eq_true c23
     try have c23b2 : (9223372036854775807 < ((t414 ++ t419) ++ t420).size + t421.size) = False:=eq_false (Nat.not_lt.2 c23)
     try (have c23b3:=c23b2;simp only [ByteArray.size_append] at c23b3)
     obtain rfl:=Option.some.inj H
     go_enter Tryz.func81,Tryz.ntmps81
     try go_wp2_with (first | ((with_reducible refine gate_dst (N:=1) rfl ?_);refine box_event ?hg (N:=1) ?hd (cs:=#[.int .i64 a0_0,.string a0_1,.string a0_2,.slice A0_3 l0_3.length c0_3,.string a0_4,.string a0_5]) (t:=34) ?hr ?_;(case hd=>rfl);(case hg=>rfl);(case hr=>first | (go_simp;done) | (go_simp;rfl));intro gb413 hg w24 hbox hb;have n0_:=As.mk (bS (by repeat (first | (with_reducible first | exact HB.out | apply bA | apply bN | apply bD) | exact HB.out)) hb);have n1_:=As.mk (hbox);have n2_:=As.mk ((by rw [hg];exact (bZ (by repeat (first | (with_reducible first | exact HB.out | apply bA | apply bN | apply bD) | exact HB.out))) : w.heap.size ≤ gb413));have n3_:=As.mk ((by rw [hg];exact (bZ (by repeat (first | (with_reducible first | exact HB.out | apply bA | apply bN | apply bD) | exact HB.out))) : w.heap.size ≤ gb413));clear HB;have HB:=n0_;have BK413:=n1_;have GW413:=n2_;have GE413:=n3_;clear n0_ n1_ n2_ n3_;clear hb hbox hg;have hcz25_0 : w24.cell? ⟨gb413,0,none⟩ = some (.int .i64 a0_0):=(bC BK413.out 0).trans rfl;have hcz25_1 : w24.cell? ⟨gb413,1,none⟩ = some (.string a0_1):=(bC BK413.out 1).trans rfl;have hcz25_2 : w24.cell? ⟨gb413,2,none⟩ = some (.string a0_2):=(bC BK413.out 2).trans rfl;have hcz25_3 : w24.cell? ⟨gb413,3,none⟩ = some (.slice A0_3 l0_3.length c0_3):=(bC BK413.out 3).trans rfl;have hcz25_4 : w24.cell? ⟨gb413,4,none⟩ = some (.string a0_4):=(bC BK413.out 4).trans rfl;have hcz25_5 : w24.cell? ⟨gb413,5,none⟩ = some (.string a0_5):=(bC BK413.out 5).trans rfl;have hfz25_0:=bF BK413.out 0;have hfz25_1:=bF BK413.out 1;have hfz25_2:=bF BK413.out 2;have hfz25_3:=bF BK413.out 3;have hfz25_4:=bF BK413.out 4;have hfz25_5:=bF BK413.out 5) | ((with_reducible refine gC (f:=80) rfl ?_);refine goesL_ (some 8) rfl rfl Tryz.func80 (by kernel_rfl) rfl #[.int .i64 a0_0] rfl (by (try simp only [List.map_toArray,List.map_cons,List.map_nil]);first | done | rfl | (simp only [List.length_drop,List.length_take];rfl)) ?_;(with_reducible refine (r01_Num.calls k a0_0 t414 t415 _ A2.out).mono ?_);rintro e w26 ⟨rfl,hb⟩;refine ⟨_,rfl,?_⟩;have n0_:=As.mk (blk_below (g:=gb413) (o:=.cells #[.int .i64 a0_0,.string a0_1,.string a0_2,.slice A0_3 l0_3.length c0_3,.string a0_4,.string a0_5] 34 (0,0)) (by (with_reducible repeat (first | refine kN ?_ _ | refine kD ?_ | refine kA ?_ _));exact BK413.out) hb);have n1_:=As.mk (bS (by repeat (first | (with_reducible first | exact HB.out | apply bA | apply bN | apply bD | refine bT ?_ GE413.out) | exact HB.out)) hb);clear BK413;clear HB;have BK413:=n0_;have HB:=n1_;clear n0_ n1_;(try clear hb);(try clear hb2);(try clear hk);(try clear hi);have hcz27_0 : w26.cell? ⟨gb413,0,none⟩ = some (.int .i64 a0_0):=(bC BK413.out 0).trans rfl;have hcz27_1 : w26.cell? ⟨gb413,1,none⟩ = some (.string a0_1):=(bC BK413.out 1).trans rfl;have hcz27_2 : w26.cell? ⟨gb413,2,none⟩ = some (.string a0_2):=(bC BK413.out 2).trans rfl;have hcz27_3 : w26.cell? ⟨gb413,3,none⟩ = some (.slice A0_3 l0_3.length c0_3):=(bC BK413.out 3).trans rfl;have hcz27_4 : w26.cell? ⟨gb413,4,none⟩ = some (.string a0_4):=(bC BK413.out 4).trans rfl;have hcz27_5 : w26.cell? ⟨gb413,5,none⟩ = some (.string a0_5):=(bC BK413.out 5).trans rfl;have hfz27_0:=bF BK413.out 0;have hfz27_1:=bF BK413.out 1;have hfz27_2:=bF BK413.out 2;have hfz27_3:=bF BK413.out 3;have hfz27_4:=bF BK413.out 4;have hfz27_5:=bF BK413.out 5))
     have n0_:=As.mk (kD BK413.out)
     have n1_:=As.mk (bD HB.out)
     clear BK413
     clear HB
     have BK413:=n0_
     have HB:=n1_
     clear n0_ n1_
     refine start_ (n:=14) (S:=fun w'=>w'.cell? ⟨gb413,0,none⟩ = some (.int .i64 a0_0) ∧ w'.cell? ⟨gb413,1,none⟩ = some (.string a0_1) ∧ w'.cell? ⟨gb413,2,none⟩ = some (.string a0_2) ∧ w'.cell? ⟨gb413,3,none⟩ = some (.slice A0_3 l0_3.length c0_3) ∧ w'.cell? ⟨gb413,4,none⟩ = some (.string a0_4) ∧ w'.cell? ⟨gb413,5,none⟩ = some (.string a0_5)) (ds:=[]) #[false,false,false,false,false,false,false,false,false,false,false,false,false,false] (by kernel_rfl) rfl rfl ⟨(bC BK413.out 0).trans rfl,(bC BK413.out 1).trans rfl,(bC BK413.out 2).trans rfl,(bC BK413.out 3).trans rfl,(bC BK413.out 4).trans rfl,(bC BK413.out 5).trans rfl⟩ (fun hHeld=>?_);refine with_tabW r07_Octets.tab4 r07_Octets.bits4 (fun HT_ HW_=>?_)
     generalize w26.drew = w28 at BK413 HB hHeld ⊢
     refine pure_ (i:=0) (N:=some 27) (v:=?_) (a':=?_) #[true,false,false,false,false,false,false,false,false,false,false,false,false,false] rfl rfl (any_of HT_.out (by kernel_rfl)) (fun _ _ _ h=>h) (Or.inl ⟨by rfl,?_⟩) ?_ ?_
     rotate_left
     ·intro w'
      go_simp
      with_reducible rfl
     rotate_left
     ·simp only [Act.put,List.setIfInBounds_toArray,List.set_cons_zero,List.set_cons_succ,i64_w,i32_w]
      rfl
     refine pure_ (i:=1) (N:=some 28) (v:=?_) (a':=?_) #[true,true,false,false,false,false,false,false,false,false,false,false,false,false] rfl rfl (any_of HT_.out (by kernel_rfl)) (fun _ _ _ h=>h) (Or.inl ⟨by rfl,?_⟩) ?_ ?_
     rotate_left
     ·intro w'
      go_simp
      with_reducible rfl
     rotate_left
     ·simp only [Act.put,List.setIfInBounds_toArray,List.set_cons_zero,List.set_cons_succ,i64_w,i32_w]
      rfl
     refine pure_ (i:=5) (N:=some 32) (v:=?_) (a':=?_) #[true,true,false,false,false,true,false,false,false,false,false,false,false,false] rfl rfl (any_of HT_.out (by kernel_rfl)) (fun _ _ _ h=>h) (Or.inl ⟨by rfl,?_⟩) ?_ ?_
     rotate_left
     ·intro w'
      go_simp
      with_reducible rfl
     rotate_left
     ·simp only [Act.put,List.setIfInBounds_toArray,List.set_cons_zero,List.set_cons_succ,i64_w,i32_w]
      rfl
     refine pure_ (i:=9) (N:=some 36) (v:=?_) (a':=?_) #[true,true,false,false,false,true,false,false,false,true,false,false,false,false] rfl rfl (any_of HT_.out (by kernel_rfl)) (fun _ _ _ h=>h) (Or.inl ⟨by rfl,?_⟩) ?_ ?_
     rotate_left
     ·intro w'
      go_simp
      with_reducible rfl
     rotate_left
     ·simp only [Act.put,List.setIfInBounds_toArray,List.set_cons_zero,List.set_cons_succ,i64_w,i32_w]
      rfl
     refine take_ (i:=2) (N:=some 29) (v:=?_) (a':=?_) #[true,true,true,false,false,true,false,false,false,true,false,false,false,false] rfl rfl (take_ofW HT_.out HW_.out (by kernel_rfl)) (fun _ _ _ h=>h) (Or.inl ⟨by rfl,?_⟩) hHeld ?_ ?_
     rotate_left
     ·rintro w' ⟨s0,s1,s2,s3,s4,s5⟩
      go_simp
      with_reducible rfl
     rotate_left
     ·simp only [Act.put,List.setIfInBounds_toArray,List.set_cons_zero,List.set_cons_succ,i64_w,i32_w]
      rfl
     refine take_ (i:=6) (N:=some 33) (v:=?_) (a':=?_) #[true,true,true,false,false,true,true,false,false,true,false,false,false,false] rfl rfl (take_ofW HT_.out HW_.out (by kernel_rfl)) (fun _ _ _ h=>h) (Or.inl ⟨by rfl,?_⟩) hHeld ?_ ?_
     rotate_left
     ·rintro w' ⟨s0,s1,s2,s3,s4,s5⟩
      go_simp
      with_reducible rfl
     rotate_left
     ·simp only [Act.put,List.setIfInBounds_toArray,List.set_cons_zero,List.set_cons_succ,i64_w,i32_w]
      rfl
     refine take_ (i:=10) (N:=some 37) (v:=?_) (a':=?_) #[true,true,true,false,false,true,true,false,false,true,true,false,false,false] rfl rfl (take_ofW HT_.out HW_.out (by kernel_rfl)) (fun _ _ _ h=>h) (Or.inl ⟨by rfl,?_⟩) hHeld ?_ ?_
     rotate_left
     ·rintro w' ⟨s0,s1,s2,s3,s4,s5⟩
      go_simp
      with_reducible rfl
     rotate_left
     ·simp only [Act.put,List.setIfInBounds_toArray,List.set_cons_zero,List.set_cons_succ,i64_w,i32_w]
      rfl
     refine one_ (i:=3) (N:=some 30) #[true,true,true,true,false,true,true,false,false,true,true,false,false,false] rfl rfl (one_of HT_.out (by kernel_rfl)) (by decide) (fun K hK=>?_)
     refine goes_ Tryz.func122 (by kernel_rfl) rfl #[.string a0_1] (by rfl) rfl rfl (by (try simp only [List.map_toArray,List.map_cons,List.map_nil]);first | done | rfl | (simp only [List.length_drop,List.length_take];rfl)) ?_
     with_reducible refine (r01_Text.calls k a0_1 t419 _ A18.out).mono ?_
     rintro e w29 ⟨rfl,hb⟩
     refine ⟨_,rfl,?_⟩
     have n0_:=As.mk (blk_below (g:=gb413) (o:=.cells #[.int .i64 a0_0,.string a0_1,.string a0_2,.slice A0_3 l0_3.length c0_3,.string a0_4,.string a0_5] 34 (0,0)) (by (with_reducible repeat (first | refine kN ?_ _ | refine kD ?_ | refine kA ?_ _));exact BK413.out) hb)
     have n1_:=As.mk (bS (by repeat (first | (with_reducible first | exact HB.out | apply bA | apply bN | apply bD | refine bT ?_ GE413.out) | exact HB.out)) hb)
     clear BK413
     clear HB
     have BK413:=n0_
     have HB:=n1_
     clear n0_ n1_
     (try clear hb)
     (try clear hb2)
     (try clear hk)
     (try clear hi)
     refine hK.out _ _ ⟨(bC BK413.out 0).trans rfl,(bC BK413.out 1).trans rfl,(bC BK413.out 2).trans rfl,(bC BK413.out 3).trans rfl,(bC BK413.out 4).trans rfl,(bC BK413.out 5).trans rfl⟩ (fun hHeld=>?_)
     clear hK K
     refine norm_ (a':=?_) ?_ ?_
     rotate_left
     ·show Act.put _ (some 30) _ = _
      simp only [Act.put,List.setIfInBounds_toArray,List.set_cons_zero,List.set_cons_succ,i64_w,i32_w]
      rfl
     refine pure_ (i:=4) (N:=some 31) (v:=?_) (a':=?_) #[true,true,true,true,true,true,true,false,false,true,true,false,false,false] rfl rfl (any_of HT_.out (by kernel_rfl)) (fun _ _ _ h=>h) (Or.inl ⟨by rfl,?_⟩) ?_ ?_
     rotate_left
     ·intro w'
      go_simp
      with_reducible rfl
     rotate_left
     ·simp only [Act.put,List.setIfInBounds_toArray,List.set_cons_zero,List.set_cons_succ,i64_w,i32_w]
      rfl
     refine one_ (i:=7) (N:=some 34) #[true,true,true,true,true,true,true,true,false,true,true,false,false,false] rfl rfl (one_of HT_.out (by kernel_rfl)) (by decide) (fun K hK=>?_)
     refine goes_ Tryz.func122 (by kernel_rfl) rfl #[.string a0_4] (by rfl) rfl rfl (by (try simp only [List.map_toArray,List.map_cons,List.map_nil]);first | done | rfl | (simp only [List.length_drop,List.length_take];rfl)) ?_
     with_reducible refine (r01_Text.calls k a0_4 t420 _ A20.out).mono ?_
     rintro e w30 ⟨rfl,hb⟩
     refine ⟨_,rfl,?_⟩
     have n0_:=As.mk (blk_below (g:=gb413) (o:=.cells #[.int .i64 a0_0,.string a0_1,.string a0_2,.slice A0_3 l0_3.length c0_3,.string a0_4,.string a0_5] 34 (0,0)) (by (with_reducible repeat (first | refine kN ?_ _ | refine kD ?_ | refine kA ?_ _));exact BK413.out) hb)
     have n1_:=As.mk (bS (by repeat (first | (with_reducible first | exact HB.out | apply bA | apply bN | apply bD | refine bT ?_ GE413.out) | exact HB.out)) hb)
     clear BK413
     clear HB
     have BK413:=n0_
     have HB:=n1_
     clear n0_ n1_
     (try clear hb)
     (try clear hb2)
     (try clear hk)
     (try clear hi)
     refine hK.out _ _ ⟨(bC BK413.out 0).trans rfl,(bC BK413.out 1).trans rfl,(bC BK413.out 2).trans rfl,(bC BK413.out 3).trans rfl,(bC BK413.out 4).trans rfl,(bC BK413.out 5).trans rfl⟩ (fun hHeld=>?_)
     clear hK K
     refine norm_ (a':=?_) ?_ ?_
     rotate_left
     ·show Act.put _ (some 34) _ = _
      simp only [Act.put,List.setIfInBounds_toArray,List.set_cons_zero,List.set_cons_succ,i64_w,i32_w]
      rfl
     refine pure_ (i:=8) (N:=some 35) (v:=?_) (a':=?_) #[true,true,true,true,true,true,true,true,true,true,true,false,false,false] rfl rfl (any_of HT_.out (by kernel_rfl)) (fun _ _ _ h=>h) (Or.inl ⟨by rfl,?_⟩) ?_ ?_
     rotate_left
     ·intro w'
      go_simp
      with_reducible rfl
     rotate_left
     ·simp only [Act.put,List.setIfInBounds_toArray,List.set_cons_zero,List.set_cons_succ,i64_w,i32_w]
      rfl
     refine one_ (i:=11) (N:=some 38) #[true,true,true,true,true,true,true,true,true,true,true,true,false,false] rfl rfl (one_of HT_.out (by kernel_rfl)) (by decide) (fun K hK=>?_)
     refine goes_ Tryz.func122 (by kernel_rfl) rfl #[.string a0_5] (by rfl) rfl rfl (by (try simp only [List.map_toArray,List.map_cons,List.map_nil]);first | done | rfl | (simp only [List.length_drop,List.length_take];rfl)) ?_
     with_reducible refine (r01_Text.calls k a0_5 t421 _ A22.out).mono ?_
     rintro e w31 ⟨rfl,hb⟩
     refine ⟨_,rfl,?_⟩
     have n0_:=As.mk (blk_below (g:=gb413) (o:=.cells #[.int .i64 a0_0,.string a0_1,.string a0_2,.slice A0_3 l0_3.length c0_3,.string a0_4,.string a0_5] 34 (0,0)) (by (with_reducible repeat (first | refine kN ?_ _ | refine kD ?_ | refine kA ?_ _));exact BK413.out) hb)
     have n1_:=As.mk (bS (by repeat (first | (with_reducible first | exact HB.out | apply bA | apply bN | apply bD | refine bT ?_ GE413.out) | exact HB.out)) hb)
     clear BK413
     clear HB
     have BK413:=n0_
     have HB:=n1_
     clear n0_ n1_
     (try clear hb)
     (try clear hb2)
     (try clear hk)
     (try clear hi)
     refine hK.out _ _ ⟨(bC BK413.out 0).trans rfl,(bC BK413.out 1).trans rfl,(bC BK413.out 2).trans rfl,(bC BK413.out 3).trans rfl,(bC BK413.out 4).trans rfl,(bC BK413.out 5).trans rfl⟩ (fun hHeld=>?_)
     clear hK K
     refine norm_ (a':=?_) ?_ ?_
     rotate_left
     ·show Act.put _ (some 38) _ = _
      simp only [Act.put,List.setIfInBounds_toArray,List.set_cons_zero,List.set_cons_succ,i64_w,i32_w]
      rfl
     refine pure_ (i:=12) (N:=some 39) (v:=?_) (a':=?_) #[true,true,true,true,true,true,true,true,true,true,true,true,true,false] rfl rfl (any_of HT_.out (by kernel_rfl)) (fun _ _ _ h=>h) (Or.inl ⟨by rfl,?_⟩) ?_ ?_
     rotate_left
     ·intro w'
      go_simp
      with_reducible rfl
     rotate_left
     ·simp only [Act.put,List.setIfInBounds_toArray,List.set_cons_zero,List.set_cons_succ,i64_w,i32_w]
      rfl
     refine pure_ (i:=13) (N:=some 2) (v:=?_) (a':=?_) #[true,true,true,true,true,true,true,true,true,true,true,true,true,true] rfl rfl (any_of HT_.out (by kernel_rfl)) (fun _ _ _ h=>h) (Or.inl ⟨by rfl,?_⟩) ?_ ?_
     rotate_left
     ·intro w'
      go_simp
      with_reducible rfl
     rotate_left
     ·simp only [Act.put,List.setIfInBounds_toArray,List.set_cons_zero,List.set_cons_succ,i64_w,i32_w]
      rfl
     refine done_ (done_of HT_.out (by kernel_rfl)) ?_
     try go_wp2
     go_ret
     exact ⟨by first | rfl | (simp [eN,eS] <;> rfl) | (simp [*,eN,eS] <;> rfl),by repeat (first | (with_reducible first | exact HB.out | apply bA | apply bN | apply bD | refine bT ?_ GE413.out) | exact HB.out)⟩
    ·rw [if_neg c23] at H
     exact absurd H (by simp)
   ·rw [if_neg c21] at H
    exact absurd H (by simp)
  ·rw [if_neg c19] at H
   exact absurd H (by simp)
/-! ### r08_Write: function 37 -/
def r08_Write.l0 : Nat → List (S34) → ByteArray → Int → Option (ByteArray)
 | 0,_,_,_=>none
 | k + 1,x0,x3,x5=>if x5 < (x0.length : Int) then (if 0 ≤ x5 then ((r07_Octets.f k ((rd_T34 x0 x5).f0) ((rd_T34 x0 x5).f1) ((rd_T34 x0 x5).f2) ((rd_T34 x0 x5).f3) ((rd_T34 x0 x5).f4) ((rd_T34 x0 x5).f5)).bind fun t425=>(if x3.size + t425.size ≤ 9223372036854775807 then (r08_Write.l0 k x0 (x3 ++ t425) (wrap64 (x5 + 1))) else (none))) else (none)) else (some x3)
def r08_Write.f (k : Nat) (l0 : List (S34)) : Option (ByteArray):=(r01_Num.f k (l0.length : Int)).bind fun bt422=>(r08_Write.l0 k l0 bt422.1 0)
theorem r08_Write.mono_l : ∀ k,(∀ y0 y1 y2,LeO (r08_Write.l0 k y0 y1 y2) (r08_Write.l0 (k + 1) y0 y1 y2))
 | 0=>fun _ _ _ r h=>by simp [r08_Write.l0] at h
 | k + 1=>by
  have ih0:=r08_Write.mono_l k
  ·intro y0 y1 y2
   unfold r08_Write.l0
   repeat' first
   | (with_reducible exact ih0 _ _ _)
   | (with_reducible exact r01_Num.mono _ _)
   | (with_reducible exact r07_Octets.mono _ _ _ _ _ _ _)
   | (with_reducible exact LeO.refl _)
   | (with_reducible exact LeO.none _)
   | (with_reducible refine LeO.ite ?_ ?_)
   | (with_reducible refine LeO.bind ?_ (fun _=>?_))
   | exact ih0 _ _ _
   | exact r01_Num.mono _ _
   | exact r07_Octets.mono _ _ _ _ _ _ _
   | exact LeO.none _
   | refine LeO.ite ?_ ?_
   | refine LeO.bind ?_ (fun _=>?_)
theorem r08_Write.mono : ∀ a0 k,LeO (r08_Write.f k a0) (r08_Write.f (k + 1) a0):=by
 intro a0 k
 have ih0:=r08_Write.mono_l k
 unfold r08_Write.f
 repeat' first
   | (with_reducible exact ih0 _ _ _)
   | (with_reducible exact r01_Num.mono _ _)
   | (with_reducible exact r07_Octets.mono _ _ _ _ _ _ _)
   | (with_reducible exact LeO.refl _)
   | (with_reducible exact LeO.none _)
   | (with_reducible refine LeO.ite ?_ ?_)
   | (with_reducible refine LeO.bind ?_ (fun _=>?_))
   | exact ih0 _ _ _
   | exact r01_Num.mono _ _
   | exact r07_Octets.mono _ _ _ _ _ _ _
   | exact LeO.none _
   | refine LeO.ite ?_ ?_
   | refine LeO.bind ?_ (fun _=>?_)
theorem r08_Write.calls (k : Nat) (A0 : Option Addr) (c0 : Nat) (l0 : List (S34)) (r : ByteArray) (w : World) (hr0 : Kd.C k34 w A0 l0.length l0) (hc0 : l0.length ≤ c0) (h : r08_Write.f k l0 = some r) :
  Calls Tryz.prog 37 #[.slice A0 l0.length c0] w fun e w'=>e = .returned (.string r) ∧ Below w.heap.size w w':=by
 have hu34:=Tryz.underlying34
 have HR0:=As.mk hr0
 have HC0:=As.mk hc0
 clear hr0 hc0
 have HB:=As.mk (Below.refl w.heap.size w)
 have H : ((r01_Num.f k (l0.length : Int)).bind fun bt422=>(r08_Write.l0 k l0 bt422.1 0)) = some r:=h
 clear h
 replace H:=Option.bind_eq_some_iff.mp H
 obtain ⟨⟨t422,t423⟩,A20,H⟩:=H
 replace H : (r08_Write.l0 k l0 t422 0) = some r:=H
 have A2:=As.mk A20
 clear A20
 have H':=As.mk H
 clear H
 go_enter Tryz.func37,Tryz.ntmps37
 go_wp2_with (first | ((with_reducible refine gC (f:=80) rfl ?_);refine goesL_ (some 9) rfl rfl Tryz.func80 (by kernel_rfl) rfl #[.int .i64 (l0.length : Int)] rfl (by (try simp only [List.map_toArray,List.map_cons,List.map_nil]);first | done | rfl | (simp only [List.length_drop,List.length_take];rfl)) ?_;(with_reducible refine (r01_Num.calls k (l0.length : Int) t422 t423 _ A2.out).mono ?_);rintro e w3 ⟨rfl,hb⟩;refine ⟨_,rfl,?_⟩;have n0_:=As.mk (bS (by repeat (first | (with_reducible first | exact HB.out | apply bA | apply bN | apply bD) | exact HB.out)) hb);clear HB;have HB:=n0_;clear n0_;(try clear hb);(try clear hb2);(try clear hk);(try clear hi)))
 go_loopg [3,5] k (fun kq v3 v5 w'=>∃ (x3_1 : ByteArray) (x5_1 : Int),v3 = .string x3_1 ∧ v5 = .int .i64 x5_1 ∧ As (r08_Write.l0 kq l0 x3_1 x5_1 = some r) ∧ As (kq ≤ k) ∧ As (Below w.heap.size w w'))
 case atStart=>exact ⟨(t422),(0),(by first | rfl | (simp;done) | (simp [*];done)),(by first | rfl | (simp;done) | (simp [*];done)),H',⟨Nat.le_refl _⟩,⟨by repeat (first | (with_reducible first | exact HB.out | apply bA | apply bN | apply bD) | exact HB.out)⟩⟩
 case round =>
  clear H'
  try clear p2
  try clear c3
  obtain ⟨x3_1,x5_1,rfl,rfl,HA,HK1,HB⟩:=hrel
  cases gk with
  | zero=>exact absurd HA.out (by simp [r08_Write.l0])
  | succ k1 =>
   have H:=HA.out
   clear HA
   simp only [r08_Write.l0] at H
   by_cases c4 : x5_1 < (l0.length : Int)
   ·rw [if_pos c4] at H
    have c4b0 : decide (x5_1 < (l0.length : Int)) = true:=decide_eq_true c4
    clear c4
    by_cases c5 : 0 ≤ x5_1
    ·rw [if_pos c5] at H
     have c5b0 : decide (0 ≤ x5_1) = true:=decide_eq_true c5
     clear c5
     replace H:=Option.bind_eq_some_iff.mp H
     obtain ⟨t425,A60,H⟩:=H
     replace H : (if x3_1.size + t425.size ≤ 9223372036854775807 then (r08_Write.l0 k1 l0 (x3_1 ++ t425) (wrap64 (x5_1 + 1))) else (none)) = some r:=H
     have A6:=As.mk A60
     clear A60
     by_cases c7 : x3_1.size + t425.size ≤ 9223372036854775807
     ·rw [if_pos c7] at H
      have c7b0:=eq_true c7
      have c7b1 : decide (x3_1.size + t425.size ≤ 9223372036854775807) = true:=decide_eq_true c7
      try have c7b2 : (9223372036854775807 < x3_1.size + t425.size) = False:=eq_false (Nat.not_lt.2 c7)
      have H':=As.mk H
      clear H
      have p424 : 0 ≤ (x5_1 : Int):=of_decide_eq_true (by first | (with_reducible assumption) | assumption)
      have q424 : x5_1 < (l0.length : Int):=of_decide_eq_true (by first | (with_reducible assumption) | assumption)
      obtain ⟨ad424,A424_3,c424_3,e424,hx424_0,hx424_1,hx424_2,hx424_3,hx424_4,hx424_5,hl424_3,hi424_3⟩:=at_T34 HR0.out x5_1 p424 q424
      cases e424
      replace hx424_0:=(HB.out.cell (World.block_lt_of_cell? w _ hx424_0)).trans hx424_0
      replace hx424_1:=(HB.out.cell (World.block_lt_of_cell? w _ hx424_1)).trans hx424_1
      replace hx424_2:=(HB.out.cell (World.block_lt_of_cell? w _ hx424_2)).trans hx424_2
      replace hx424_3:=(HB.out.cell (World.block_lt_of_cell? w _ hx424_3)).trans hx424_3
      replace hx424_4:=(HB.out.cell (World.block_lt_of_cell? w _ hx424_4)).trans hx424_4
      replace hx424_5:=(HB.out.cell (World.block_lt_of_cell? w _ hx424_5)).trans hx424_5
      have HR424_3:=As.mk hi424_3
      have HC424_3:=As.mk hl424_3
      clear hi424_3 hl424_3
      replace p424:=eq_true p424
      replace q424:=eq_true q424
      go_wp2_with (first | ((with_reducible refine gC (f:=81) rfl ?_);refine goesL_ (some 23) rfl rfl Tryz.func81 (by kernel_rfl) rfl #[.agg #[.int .i64 ((rd_T34 l0 x5_1).f0),.string ((rd_T34 l0 x5_1).f1),.string ((rd_T34 l0 x5_1).f2),.slice A424_3 ((rd_T34 l0 x5_1).f3).length c424_3,.string ((rd_T34 l0 x5_1).f4),.string ((rd_T34 l0 x5_1).f5)]] rfl (by (try simp only [List.map_toArray,List.map_cons,List.map_nil]);first | done | rfl | (simp only [List.length_drop,List.length_take];rfl)) ?_;(with_reducible refine (r07_Octets.calls k1 ((rd_T34 l0 x5_1).f0) ((rd_T34 l0 x5_1).f1) ((rd_T34 l0 x5_1).f2) _ _ ((rd_T34 l0 x5_1).f3) ((rd_T34 l0 x5_1).f4) ((rd_T34 l0 x5_1).f5) t425 _ ?side1 ?side2 A6.out).mono ?_);(case side1=>repeat (first | exact (Kd.C_below HR424_3.out HB.out) | (with_reducible refine Kd.C_alloc ?_ _) | (with_reducible refine Kd.C_drewN ?_ _) | (with_reducible refine Kd.C_drew ?_)));(case side2=>exact HC424_3.out);rintro e w8 ⟨rfl,hb⟩;refine ⟨_,rfl,?_⟩;have n0_:=As.mk (bS (by repeat (first | (with_reducible first | exact HB.out | apply bA | apply bN | apply bD) | exact HB.out)) hb);clear HB;have HB:=n0_;clear n0_;(try clear hb);(try clear hb2);(try clear hk);(try clear hi)))
      go_roundg k1
      case measure=>have:=HK1.out;omega
      case rel=>exact ⟨(x3_1 ++ t425),(wrap64 (x5_1 + 1)),(by first | rfl | (simp;done) | (simp [*];done)),(by first | rfl | (simp;done) | (simp [*];done)),H',⟨by have:=HK1.out;omega⟩,⟨by repeat (first | (with_reducible first | exact HB.out | apply bA | apply bN | apply bD) | exact HB.out)⟩⟩
     ·rw [if_neg c7] at H
      exact absurd H (by simp)
    ·rw [if_neg c5] at H
     exact absurd H (by simp)
   ·rw [if_neg c4] at H
    have c4b0 : decide (x5_1 < (l0.length : Int)) = false:=decide_eq_false c4
    clear c4
    obtain rfl:=Option.some.inj H
    go_wp2
    go_ret
    exact ⟨by first | rfl | (simp [eN,eS] <;> rfl) | (simp [*,eN,eS] <;> rfl),by repeat (first | (with_reducible first | exact HB.out | apply bA | apply bN | apply bD) | exact HB.out)⟩
end Go.Proofs.YtmlebgikdegjjaaGreatDoor.PAll
