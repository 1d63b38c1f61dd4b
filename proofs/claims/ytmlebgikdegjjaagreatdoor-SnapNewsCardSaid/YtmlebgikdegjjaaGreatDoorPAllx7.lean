import Derived.Test.YtmlebgikdegjjaaGreatDoorPAllx0
import Derived.Test.YtmlebgikdegjjaaGreatDoorPAllx6
set_option maxHeartbeats 8000000
set_option maxRecDepth 100000
namespace Go.Proofs.YtmlebgikdegjjaaGreatDoor.PAll
open Go.RowKit Go.Proofs.YtmlebgikdegjjaaGreatDoorW.PrintWords Go.Proofs.YtmlebgikdegjjaaGreatDoorW.PrintLast Go.Proofs.YtmlebgikdegjjaaGreatDoorW.PrintMore
attribute [local go_sem] max2_int min2_int max_two min_two max_three min_three max_four min_four   -- for this text's walks alone
set_option linter.unusedVariables false
set_option linter.unusedSimpArgs false
/-! ### r07_Key: function 62 -/
def r07_Key.f (k : Nat) (a0_0 : Int) (a0_1 : ByteArray) (a0_2 : ByteArray) (l0_3 : List ByteArray) (a0_4 : ByteArray) (a0_5 : ByteArray) : Option (ByteArray):=(r07_Right.f k a0_0 a0_1 a0_2 l0_3 a0_4 a0_5).bind fun t200=>(if t200 = true then (if a0_0 = 1 then (some a0_1) else (if a0_1.size + 2 ≤ 9223372036854775807 then (if (a0_1 ++ (⟨#[62,62]⟩ : ByteArray)).size + a0_4.size ≤ 9223372036854775807 then (some ((a0_1 ++ (⟨#[62,62]⟩ : ByteArray)) ++ a0_4)) else (none)) else (none))) else (some (⟨#[]⟩ : ByteArray)))
theorem r07_Key.mono : ∀ a0 a1 a2 a3 a4 a5 k,LeO (r07_Key.f k a0 a1 a2 a3 a4 a5) (r07_Key.f (k + 1) a0 a1 a2 a3 a4 a5):=by
 intro a0 a1 a2 a3 a4 a5 k
 unfold r07_Key.f
 repeat' first
   | (with_reducible exact r07_Right.mono _ _ _ _ _ _ _)
   | (with_reducible exact LeO.refl _)
   | (with_reducible exact LeO.none _)
   | (with_reducible refine LeO.ite ?_ ?_)
   | (with_reducible refine LeO.bind ?_ (fun _=>?_))
   | exact r07_Right.mono _ _ _ _ _ _ _
   | exact LeO.none _
   | refine LeO.ite ?_ ?_
   | refine LeO.bind ?_ (fun _=>?_)
theorem r07_Key.calls (k : Nat) (a0_0 : Int) (a0_1 : ByteArray) (a0_2 : ByteArray) (A0_3 : Option Addr) (c0_3 : Nat) (l0_3 : List ByteArray) (a0_4 : ByteArray) (a0_5 : ByteArray) (r : ByteArray) (w : World) (hr0_3 : Kd.C Kd.string w A0_3 l0_3.length l0_3) (hc0_3 : l0_3.length ≤ c0_3) (h : r07_Key.f k a0_0 a0_1 a0_2 l0_3 a0_4 a0_5 = some r) :
  Calls Tryz.prog 62 #[.agg #[.int .i64 a0_0,.string a0_1,.string a0_2,.slice A0_3 l0_3.length c0_3,.string a0_4,.string a0_5]] w fun e w'=>e = .returned (.string r) ∧ Below w.heap.size w w':=by
 have hu34:=Tryz.underlying34
 have HR0_3:=As.mk hr0_3
 have HC0_3:=As.mk hc0_3
 clear hr0_3 hc0_3
 have HB:=As.mk (Below.refl w.heap.size w)
 have H : ((r07_Right.f k a0_0 a0_1 a0_2 l0_3 a0_4 a0_5).bind fun t200=>(if t200 = true then (if a0_0 = 1 then (some a0_1) else (if a0_1.size + 2 ≤ 9223372036854775807 then (if (a0_1 ++ (⟨#[62,62]⟩ : ByteArray)).size + a0_4.size ≤ 9223372036854775807 then (some ((a0_1 ++ (⟨#[62,62]⟩ : ByteArray)) ++ a0_4)) else (none)) else (none))) else (some (⟨#[]⟩ : ByteArray)))) = some r:=h
 clear h
 replace H:=Option.bind_eq_some_iff.mp H
 obtain ⟨t200,A20,H⟩:=H
 replace H : (if t200 = true then (if a0_0 = 1 then (some a0_1) else (if a0_1.size + 2 ≤ 9223372036854775807 then (if (a0_1 ++ (⟨#[62,62]⟩ : ByteArray)).size + a0_4.size ≤ 9223372036854775807 then (some ((a0_1 ++ (⟨#[62,62]⟩ : ByteArray)) ++ a0_4)) else (none)) else (none))) else (some (⟨#[]⟩ : ByteArray))) = some r:=H
 have A2:=As.mk A20
 clear A20
 by_cases c3 : t200 = true
 ·subst c3
  have H1 : (if a0_0 = 1 then (some a0_1) else (if a0_1.size + 2 ≤ 9223372036854775807 then (if (a0_1 ++ (⟨#[62,62]⟩ : ByteArray)).size + a0_4.size ≤ 9223372036854775807 then (some ((a0_1 ++ (⟨#[62,62]⟩ : ByteArray)) ++ a0_4)) else (none)) else (none))) = some r:=by rw [if_pos rfl] at H;exact H
  clear H
  have H:=H1
  clear H1
  by_cases c4 : a0_0 = 1
  ·rw [if_pos c4] at H
   have c4b0 : (a0_0 == 1) = true:=beq_iff_eq.mpr c4
   have c4b1 : (a0_0 != 1) = false:=bne_eq_false_iff_eq.mpr c4
   clear c4
   obtain rfl:=Option.some.inj H
   go_enter Tryz.func62,Tryz.ntmps62
   go_wp2_with (first | ((with_reducible refine gate_dst (N:=1) rfl ?_);refine box_event ?hg (N:=1) ?hd (cs:=#[.int .i64 a0_0,.string a0_1,.string a0_2,.slice A0_3 l0_3.length c0_3,.string a0_4,.string a0_5]) (t:=34) ?hr ?_;(case hd=>rfl);(case hg=>rfl);(case hr=>first | (go_simp;done) | (go_simp;rfl));intro gb199 hg w5 hbox hb;have n0_:=As.mk (bS (by repeat (first | (with_reducible first | exact HB.out | apply bA | apply bN | apply bD) | exact HB.out)) hb);have n1_:=As.mk (hbox);have n2_:=As.mk ((by rw [hg];exact (bZ (by repeat (first | (with_reducible first | exact HB.out | apply bA | apply bN | apply bD) | exact HB.out))) : w.heap.size ≤ gb199));have n3_:=As.mk ((by rw [hg];exact (bZ (by repeat (first | (with_reducible first | exact HB.out | apply bA | apply bN | apply bD) | exact HB.out))) : w.heap.size ≤ gb199));clear HB;have HB:=n0_;have BK199:=n1_;have GW199:=n2_;have GE199:=n3_;clear n0_ n1_ n2_ n3_;clear hb hbox hg;have hcz6_0 : w5.cell? ⟨gb199,0,none⟩ = some (.int .i64 a0_0):=(bC BK199.out 0).trans rfl;have hcz6_1 : w5.cell? ⟨gb199,1,none⟩ = some (.string a0_1):=(bC BK199.out 1).trans rfl;have hcz6_2 : w5.cell? ⟨gb199,2,none⟩ = some (.string a0_2):=(bC BK199.out 2).trans rfl;have hcz6_3 : w5.cell? ⟨gb199,3,none⟩ = some (.slice A0_3 l0_3.length c0_3):=(bC BK199.out 3).trans rfl;have hcz6_4 : w5.cell? ⟨gb199,4,none⟩ = some (.string a0_4):=(bC BK199.out 4).trans rfl;have hcz6_5 : w5.cell? ⟨gb199,5,none⟩ = some (.string a0_5):=(bC BK199.out 5).trans rfl;have hfz6_0:=bF BK199.out 0;have hfz6_1:=bF BK199.out 1;have hfz6_2:=bF BK199.out 2;have hfz6_3:=bF BK199.out 3;have hfz6_4:=bF BK199.out 4;have hfz6_5:=bF BK199.out 5) | ((with_reducible refine gC (f:=24) rfl ?_);refine goesL_ (some 4) rfl rfl Tryz.func24 (by kernel_rfl) rfl #[.agg #[.int .i64 a0_0,.string a0_1,.string a0_2,.slice A0_3 l0_3.length c0_3,.string a0_4,.string a0_5]] rfl (by (try simp only [List.map_toArray,List.map_cons,List.map_nil]);first | done | rfl | (simp only [List.length_drop,List.length_take];rfl)) ?_;(with_reducible refine (r07_Right.calls k a0_0 a0_1 a0_2 _ _ l0_3 a0_4 a0_5 true _ ?side1 ?side2 A2.out).mono ?_);(case side1=>repeat (first | exact (Kd.C_below HR0_3.out HB.out) | (with_reducible refine Kd.C_alloc ?_ _) | (with_reducible refine Kd.C_drewN ?_ _) | (with_reducible refine Kd.C_drew ?_)));(case side2=>exact HC0_3.out);rintro e w7 ⟨rfl,hb⟩;refine ⟨_,rfl,?_⟩;have n0_:=As.mk (blk_below (g:=gb199) (o:=.cells #[.int .i64 a0_0,.string a0_1,.string a0_2,.slice A0_3 l0_3.length c0_3,.string a0_4,.string a0_5] 34 (0,0)) (by (with_reducible repeat (first | refine kN ?_ _ | refine kD ?_ | refine kA ?_ _));exact BK199.out) hb);have n1_:=As.mk (bS (by repeat (first | (with_reducible first | exact HB.out | apply bA | apply bN | apply bD | refine bT ?_ GE199.out) | exact HB.out)) hb);clear BK199;clear HB;have BK199:=n0_;have HB:=n1_;clear n0_ n1_;(try clear hb);(try clear hb2);(try clear hk);(try clear hi);have hcz8_0 : w7.cell? ⟨gb199,0,none⟩ = some (.int .i64 a0_0):=(bC BK199.out 0).trans rfl;have hcz8_1 : w7.cell? ⟨gb199,1,none⟩ = some (.string a0_1):=(bC BK199.out 1).trans rfl;have hcz8_2 : w7.cell? ⟨gb199,2,none⟩ = some (.string a0_2):=(bC BK199.out 2).trans rfl;have hcz8_3 : w7.cell? ⟨gb199,3,none⟩ = some (.slice A0_3 l0_3.length c0_3):=(bC BK199.out 3).trans rfl;have hcz8_4 : w7.cell? ⟨gb199,4,none⟩ = some (.string a0_4):=(bC BK199.out 4).trans rfl;have hcz8_5 : w7.cell? ⟨gb199,5,none⟩ = some (.string a0_5):=(bC BK199.out 5).trans rfl;have hfz8_0:=bF BK199.out 0;have hfz8_1:=bF BK199.out 1;have hfz8_2:=bF BK199.out 2;have hfz8_3:=bF BK199.out 3;have hfz8_4:=bF BK199.out 4;have hfz8_5:=bF BK199.out 5))
   go_ret
   exact ⟨by first | rfl | (simp [eN,eS] <;> rfl) | (simp [*,eN,eS] <;> rfl),by repeat (first | (with_reducible first | exact HB.out | apply bA | apply bN | apply bD | refine bT ?_ GE199.out) | exact HB.out)⟩
  ·rw [if_neg c4] at H
   have c4b0 : (a0_0 == 1) = false:=beq_eq_false_iff_ne.mpr c4
   have c4b1 : (a0_0 != 1) = true:=bne_iff_ne.mpr c4
   by_cases c9 : a0_1.size + 2 ≤ 9223372036854775807
   ·rw [if_pos c9] at H
    have c9b0:=eq_true c9
    have c9b1 : decide (a0_1.size + 2 ≤ 9223372036854775807) = true:=decide_eq_true c9
    try have c9b2 : (9223372036854775807 < a0_1.size + 2) = False:=eq_false (Nat.not_lt.2 c9)
    by_cases c10 : (a0_1 ++ (⟨#[62,62]⟩ : ByteArray)).size + a0_4.size ≤ 9223372036854775807
    ·rw [if_pos c10] at H
     have c10b0:=eq_true c10
     have c10b1 : decide ((a0_1 ++ (⟨#[62,62]⟩ : ByteArray)).size + a0_4.size ≤ 9223372036854775807) = true:=decide_eq_true c10
     try have c10b2 : (9223372036854775807 < (a0_1 ++ (⟨#[62,62]⟩ : ByteArray)).size + a0_4.size) = False:=eq_false (Nat.not_lt.2 c10)
     try (have c10b3:=c10b2;simp only [ByteArray.size_append] at c10b3)
     obtain rfl:=Option.some.inj H
     go_enter Tryz.func62,Tryz.ntmps62
     go_wp2_with (first | ((with_reducible refine gate_dst (N:=1) rfl ?_);refine box_event ?hg (N:=1) ?hd (cs:=#[.int .i64 a0_0,.string a0_1,.string a0_2,.slice A0_3 l0_3.length c0_3,.string a0_4,.string a0_5]) (t:=34) ?hr ?_;(case hd=>rfl);(case hg=>rfl);(case hr=>first | (go_simp;done) | (go_simp;rfl));intro gb199 hg w11 hbox hb;have n0_:=As.mk (bS (by repeat (first | (with_reducible first | exact HB.out | apply bA | apply bN | apply bD) | exact HB.out)) hb);have n1_:=As.mk (hbox);have n2_:=As.mk ((by rw [hg];exact (bZ (by repeat (first | (with_reducible first | exact HB.out | apply bA | apply bN | apply bD) | exact HB.out))) : w.heap.size ≤ gb199));have n3_:=As.mk ((by rw [hg];exact (bZ (by repeat (first | (with_reducible first | exact HB.out | apply bA | apply bN | apply bD) | exact HB.out))) : w.heap.size ≤ gb199));clear HB;have HB:=n0_;have BK199:=n1_;have GW199:=n2_;have GE199:=n3_;clear n0_ n1_ n2_ n3_;clear hb hbox hg;have hcz12_0 : w11.cell? ⟨gb199,0,none⟩ = some (.int .i64 a0_0):=(bC BK199.out 0).trans rfl;have hcz12_1 : w11.cell? ⟨gb199,1,none⟩ = some (.string a0_1):=(bC BK199.out 1).trans rfl;have hcz12_2 : w11.cell? ⟨gb199,2,none⟩ = some (.string a0_2):=(bC BK199.out 2).trans rfl;have hcz12_3 : w11.cell? ⟨gb199,3,none⟩ = some (.slice A0_3 l0_3.length c0_3):=(bC BK199.out 3).trans rfl;have hcz12_4 : w11.cell? ⟨gb199,4,none⟩ = some (.string a0_4):=(bC BK199.out 4).trans rfl;have hcz12_5 : w11.cell? ⟨gb199,5,none⟩ = some (.string a0_5):=(bC BK199.out 5).trans rfl;have hfz12_0:=bF BK199.out 0;have hfz12_1:=bF BK199.out 1;have hfz12_2:=bF BK199.out 2;have hfz12_3:=bF BK199.out 3;have hfz12_4:=bF BK199.out 4;have hfz12_5:=bF BK199.out 5) | ((with_reducible refine gC (f:=24) rfl ?_);refine goesL_ (some 4) rfl rfl Tryz.func24 (by kernel_rfl) rfl #[.agg #[.int .i64 a0_0,.string a0_1,.string a0_2,.slice A0_3 l0_3.length c0_3,.string a0_4,.string a0_5]] rfl (by (try simp only [List.map_toArray,List.map_cons,List.map_nil]);first | done | rfl | (simp only [List.length_drop,List.length_take];rfl)) ?_;(with_reducible refine (r07_Right.calls k a0_0 a0_1 a0_2 _ _ l0_3 a0_4 a0_5 true _ ?side1 ?side2 A2.out).mono ?_);(case side1=>repeat (first | exact (Kd.C_below HR0_3.out HB.out) | (with_reducible refine Kd.C_alloc ?_ _) | (with_reducible refine Kd.C_drewN ?_ _) | (with_reducible refine Kd.C_drew ?_)));(case side2=>exact HC0_3.out);rintro e w13 ⟨rfl,hb⟩;refine ⟨_,rfl,?_⟩;have n0_:=As.mk (blk_below (g:=gb199) (o:=.cells #[.int .i64 a0_0,.string a0_1,.string a0_2,.slice A0_3 l0_3.length c0_3,.string a0_4,.string a0_5] 34 (0,0)) (by (with_reducible repeat (first | refine kN ?_ _ | refine kD ?_ | refine kA ?_ _));exact BK199.out) hb);have n1_:=As.mk (bS (by repeat (first | (with_reducible first | exact HB.out | apply bA | apply bN | apply bD | refine bT ?_ GE199.out) | exact HB.out)) hb);clear BK199;clear HB;have BK199:=n0_;have HB:=n1_;clear n0_ n1_;(try clear hb);(try clear hb2);(try clear hk);(try clear hi);have hcz14_0 : w13.cell? ⟨gb199,0,none⟩ = some (.int .i64 a0_0):=(bC BK199.out 0).trans rfl;have hcz14_1 : w13.cell? ⟨gb199,1,none⟩ = some (.string a0_1):=(bC BK199.out 1).trans rfl;have hcz14_2 : w13.cell? ⟨gb199,2,none⟩ = some (.string a0_2):=(bC BK199.out 2).trans rfl;have hcz14_3 : w13.cell? ⟨gb199,3,none⟩ = some (.slice A0_3 l0_3.length c0_3):=(bC BK199.out 3).trans rfl;have hcz14_4 : w13.cell? ⟨gb199,4,none⟩ = some (.string a0_4):=(bC BK199.out 4).trans rfl;have hcz14_5 : w13.cell? ⟨gb199,5,none⟩ = some (.string a0_5):=(bC BK199.out 5).trans rfl;have hfz14_0:=bF BK199.out 0;have hfz14_1:=bF BK199.out 1;have hfz14_2:=bF BK199.out 2;have hfz14_3:=bF BK199.out 3;have hfz14_4:=bF BK199.out 4;have hfz14_5:=bF BK199.out 5))
     go_ret
     exact ⟨by first | rfl | (simp [eN,eS] <;> rfl) | (simp [*,eN,eS] <;> rfl),by repeat (first | (with_reducible first | exact HB.out | apply bA | apply bN | apply bD | refine bT ?_ GE199.out) | exact HB.out)⟩
    ·rw [if_neg c10] at H
     exact absurd H (by simp)
   ·rw [if_neg c9] at H
    exact absurd H (by simp)
 ·replace c3:=Bool.eq_false_iff.mpr c3
  subst c3
  have H1 : (some (⟨#[]⟩ : ByteArray)) = some r:=by rw [if_neg (show ¬ (false = true) by decide)] at H;exact H
  clear H
  have H:=H1
  clear H1
  obtain rfl:=Option.some.inj H
  go_enter Tryz.func62,Tryz.ntmps62
  go_wp2_with (first | ((with_reducible refine gate_dst (N:=1) rfl ?_);refine box_event ?hg (N:=1) ?hd (cs:=#[.int .i64 a0_0,.string a0_1,.string a0_2,.slice A0_3 l0_3.length c0_3,.string a0_4,.string a0_5]) (t:=34) ?hr ?_;(case hd=>rfl);(case hg=>rfl);(case hr=>first | (go_simp;done) | (go_simp;rfl));intro gb199 hg w15 hbox hb;have n0_:=As.mk (bS (by repeat (first | (with_reducible first | exact HB.out | apply bA | apply bN | apply bD) | exact HB.out)) hb);have n1_:=As.mk (hbox);have n2_:=As.mk ((by rw [hg];exact (bZ (by repeat (first | (with_reducible first | exact HB.out | apply bA | apply bN | apply bD) | exact HB.out))) : w.heap.size ≤ gb199));have n3_:=As.mk ((by rw [hg];exact (bZ (by repeat (first | (with_reducible first | exact HB.out | apply bA | apply bN | apply bD) | exact HB.out))) : w.heap.size ≤ gb199));clear HB;have HB:=n0_;have BK199:=n1_;have GW199:=n2_;have GE199:=n3_;clear n0_ n1_ n2_ n3_;clear hb hbox hg;have hcz16_0 : w15.cell? ⟨gb199,0,none⟩ = some (.int .i64 a0_0):=(bC BK199.out 0).trans rfl;have hcz16_1 : w15.cell? ⟨gb199,1,none⟩ = some (.string a0_1):=(bC BK199.out 1).trans rfl;have hcz16_2 : w15.cell? ⟨gb199,2,none⟩ = some (.string a0_2):=(bC BK199.out 2).trans rfl;have hcz16_3 : w15.cell? ⟨gb199,3,none⟩ = some (.slice A0_3 l0_3.length c0_3):=(bC BK199.out 3).trans rfl;have hcz16_4 : w15.cell? ⟨gb199,4,none⟩ = some (.string a0_4):=(bC BK199.out 4).trans rfl;have hcz16_5 : w15.cell? ⟨gb199,5,none⟩ = some (.string a0_5):=(bC BK199.out 5).trans rfl;have hfz16_0:=bF BK199.out 0;have hfz16_1:=bF BK199.out 1;have hfz16_2:=bF BK199.out 2;have hfz16_3:=bF BK199.out 3;have hfz16_4:=bF BK199.out 4;have hfz16_5:=bF BK199.out 5) | ((with_reducible refine gC (f:=24) rfl ?_);refine goesL_ (some 4) rfl rfl Tryz.func24 (by kernel_rfl) rfl #[.agg #[.int .i64 a0_0,.string a0_1,.string a0_2,.slice A0_3 l0_3.length c0_3,.string a0_4,.string a0_5]] rfl (by (try simp only [List.map_toArray,List.map_cons,List.map_nil]);first | done | rfl | (simp only [List.length_drop,List.length_take];rfl)) ?_;(with_reducible refine (r07_Right.calls k a0_0 a0_1 a0_2 _ _ l0_3 a0_4 a0_5 false _ ?side1 ?side2 A2.out).mono ?_);(case side1=>repeat (first | exact (Kd.C_below HR0_3.out HB.out) | (with_reducible refine Kd.C_alloc ?_ _) | (with_reducible refine Kd.C_drewN ?_ _) | (with_reducible refine Kd.C_drew ?_)));(case side2=>exact HC0_3.out);rintro e w17 ⟨rfl,hb⟩;refine ⟨_,rfl,?_⟩;have n0_:=As.mk (blk_below (g:=gb199) (o:=.cells #[.int .i64 a0_0,.string a0_1,.string a0_2,.slice A0_3 l0_3.length c0_3,.string a0_4,.string a0_5] 34 (0,0)) (by (with_reducible repeat (first | refine kN ?_ _ | refine kD ?_ | refine kA ?_ _));exact BK199.out) hb);have n1_:=As.mk (bS (by repeat (first | (with_reducible first | exact HB.out | apply bA | apply bN | apply bD | refine bT ?_ GE199.out) | exact HB.out)) hb);clear BK199;clear HB;have BK199:=n0_;have HB:=n1_;clear n0_ n1_;(try clear hb);(try clear hb2);(try clear hk);(try clear hi)))
  go_ret
  exact ⟨by first | rfl | (simp [eN,eS] <;> rfl) | (simp [*,eN,eS] <;> rfl),by repeat (first | (with_reducible first | exact HB.out | apply bA | apply bN | apply bD | refine bT ?_ GE199.out) | exact HB.out)⟩
/-! ### r08_Put: function 25 -/
mutual
def r08_Put.l0 : Nat → List (S34) → ByteArray → List (S34) → Bool → Int → Int → ByteArray → ByteArray → List ByteArray → ByteArray → ByteArray → Option ((List (S34)))
 | 0,_,_,_,_,_,_,_,_,_,_,_=>none
 | k + 1,x0,x5,x6,x7,x8,x202000,x202001,x202002,x202003,x202004,x202005=>if x8 < (x0.length : Int) then (if 0 ≤ x8 then ((r07_Key.f k ((rd_T34 x0 x8).f0) ((rd_T34 x0 x8).f1) ((rd_T34 x0 x8).f2) ((rd_T34 x0 x8).f3) ((rd_T34 x0 x8).f4) ((rd_T34 x0 x8).f5)).bind fun t207=>(if x7 = true then (r08_Put.j1 k x0 x5 x6 x7 x8 t207 false x202000 x202001 x202002 x202003 x202004 x202005) else (r08_Put.j1 k x0 x5 x6 x7 x8 t207 (!(Op.bytesLess t207.toList x5.toList)) x202000 x202001 x202002 x202003 x202004 x202005))) else (none)) else (if x7 = true then (some x6) else (if x6.length < 1466015503701 then (some (x6 ++ [(⟨x202000,x202001,x202002,x202003,x202004,x202005⟩ : S34)])) else (none)))
def r08_Put.j1 : Nat → List (S34) → ByteArray → List (S34) → Bool → Int → ByteArray → Bool → Int → ByteArray → ByteArray → List ByteArray → ByteArray → ByteArray → Option ((List (S34)))
 | 0,_,_,_,_,_,_,_,_,_,_,_,_,_=>none
 | k + 1,x0,x5,x6,x7,x8,x9,x29,x202000,x202001,x202002,x202003,x202004,x202005=>if x29 = true then (if x6.length < 1466015503701 then ((some (x6 ++ [(⟨x202000,x202001,x202002,x202003,x202004,x202005⟩ : S34)] : List (S34))).bind fun y208=>(if x9.toList = x5.toList then (r08_Put.l0 k x0 x5 y208 true (wrap64 (x8 + 1)) x202000 x202001 x202002 x202003 x202004 x202005) else (if 0 ≤ x8 then (if x8 < (x0.length : Int) then (if y208.length < 1466015503701 then (r08_Put.l0 k x0 x5 (y208 ++ [(⟨(rd_T34 x0 x8).f0,(rd_T34 x0 x8).f1,(rd_T34 x0 x8).f2,(rd_T34 x0 x8).f3,(rd_T34 x0 x8).f4,(rd_T34 x0 x8).f5⟩ : S34)]) true (wrap64 (x8 + 1)) x202000 x202001 x202002 x202003 x202004 x202005) else (none)) else (none)) else (none)))) else (none)) else (if x9.toList = x5.toList then (r08_Put.l0 k x0 x5 x6 x7 (wrap64 (x8 + 1)) x202000 x202001 x202002 x202003 x202004 x202005) else (if 0 ≤ x8 then (if x8 < (x0.length : Int) then (if x6.length < 1466015503701 then (r08_Put.l0 k x0 x5 (x6 ++ [(⟨(rd_T34 x0 x8).f0,(rd_T34 x0 x8).f1,(rd_T34 x0 x8).f2,(rd_T34 x0 x8).f3,(rd_T34 x0 x8).f4,(rd_T34 x0 x8).f5⟩ : S34)]) x7 (wrap64 (x8 + 1)) x202000 x202001 x202002 x202003 x202004 x202005) else (none)) else (none)) else (none)))
end
def r08_Put.f (k : Nat) (l0 : List (S34)) (a1_0 : Int) (a1_1 : ByteArray) (a1_2 : ByteArray) (l1_3 : List ByteArray) (a1_4 : ByteArray) (a1_5 : ByteArray) : Option ((List (S34))):=(r07_Key.f k a1_0 a1_1 a1_2 l1_3 a1_4 a1_5).bind fun t202=>(r08_Put.l0 k l0 t202 ([] : List (S34)) false 0 a1_0 a1_1 a1_2 l1_3 a1_4 a1_5)
theorem r08_Put.mono_l : ∀ k,(∀ y0 y1 y2 y3 y4 y5 y6 y7 y8 y9 y10,LeO (r08_Put.l0 k y0 y1 y2 y3 y4 y5 y6 y7 y8 y9 y10) (r08_Put.l0 (k + 1) y0 y1 y2 y3 y4 y5 y6 y7 y8 y9 y10)) ∧ (∀ y0 y1 y2 y3 y4 y5 y6 y7 y8 y9 y10 y11 y12,LeO (r08_Put.j1 k y0 y1 y2 y3 y4 y5 y6 y7 y8 y9 y10 y11 y12) (r08_Put.j1 (k + 1) y0 y1 y2 y3 y4 y5 y6 y7 y8 y9 y10 y11 y12))
 | 0=>⟨fun _ _ _ _ _ _ _ _ _ _ _ r h=>by simp [r08_Put.l0] at h,fun _ _ _ _ _ _ _ _ _ _ _ _ _ r h=>by simp [r08_Put.j1] at h⟩
 | k + 1=>by
  obtain ⟨ih0,ih1⟩:=r08_Put.mono_l k
  refine ⟨?_,?_⟩
  ·intro y0 y1 y2 y3 y4 y5 y6 y7 y8 y9 y10
   unfold r08_Put.l0
   repeat' first
   | (with_reducible exact ih0 _ _ _ _ _ _ _ _ _ _ _)
   | (with_reducible exact ih1 _ _ _ _ _ _ _ _ _ _ _ _ _)
   | (with_reducible exact r07_Key.mono _ _ _ _ _ _ _)
   | (with_reducible exact LeO.refl _)
   | (with_reducible exact LeO.none _)
   | (with_reducible refine LeO.ite ?_ ?_)
   | (with_reducible refine LeO.bind ?_ (fun _=>?_))
   | exact ih0 _ _ _ _ _ _ _ _ _ _ _
   | exact ih1 _ _ _ _ _ _ _ _ _ _ _ _ _
   | exact r07_Key.mono _ _ _ _ _ _ _
   | exact LeO.none _
   | refine LeO.ite ?_ ?_
   | refine LeO.bind ?_ (fun _=>?_)
  ·intro y0 y1 y2 y3 y4 y5 y6 y7 y8 y9 y10 y11 y12
   unfold r08_Put.j1
   repeat' first
   | (with_reducible exact ih0 _ _ _ _ _ _ _ _ _ _ _)
   | (with_reducible exact ih1 _ _ _ _ _ _ _ _ _ _ _ _ _)
   | (with_reducible exact r07_Key.mono _ _ _ _ _ _ _)
   | (with_reducible exact LeO.refl _)
   | (with_reducible exact LeO.none _)
   | (with_reducible refine LeO.ite ?_ ?_)
   | (with_reducible refine LeO.bind ?_ (fun _=>?_))
   | exact ih0 _ _ _ _ _ _ _ _ _ _ _
   | exact ih1 _ _ _ _ _ _ _ _ _ _ _ _ _
   | exact r07_Key.mono _ _ _ _ _ _ _
   | exact LeO.none _
   | refine LeO.ite ?_ ?_
   | refine LeO.bind ?_ (fun _=>?_)
theorem r08_Put.mono : ∀ a0 a1 a2 a3 a4 a5 a6 k,LeO (r08_Put.f k a0 a1 a2 a3 a4 a5 a6) (r08_Put.f (k + 1) a0 a1 a2 a3 a4 a5 a6):=by
 intro a0 a1 a2 a3 a4 a5 a6 k
 obtain ⟨ih0,ih1⟩:=r08_Put.mono_l k
 unfold r08_Put.f
 repeat' first
   | (with_reducible exact ih0 _ _ _ _ _ _ _ _ _ _ _)
   | (with_reducible exact ih1 _ _ _ _ _ _ _ _ _ _ _ _ _)
   | (with_reducible exact r07_Key.mono _ _ _ _ _ _ _)
   | (with_reducible exact LeO.refl _)
   | (with_reducible exact LeO.none _)
   | (with_reducible refine LeO.ite ?_ ?_)
   | (with_reducible refine LeO.bind ?_ (fun _=>?_))
   | exact ih0 _ _ _ _ _ _ _ _ _ _ _
   | exact ih1 _ _ _ _ _ _ _ _ _ _ _ _ _
   | exact r07_Key.mono _ _ _ _ _ _ _
   | exact LeO.none _
   | refine LeO.ite ?_ ?_
   | refine LeO.bind ?_ (fun _=>?_)
theorem r08_Put.calls (k : Nat) (P0_ : Nat → Prop) (A0 : Option Addr) (c0 : Nat) (l0 : List (S34)) (a1_0 : Int) (a1_1 : ByteArray) (a1_2 : ByteArray) (P1_3_ : Nat → Prop) (A1_3 : Option Addr) (c1_3 : Nat) (l1_3 : List ByteArray) (a1_4 : ByteArray) (a1_5 : ByteArray) (r : List (S34)) (w : World) (hs0 : Kd.V k34 34 w w.heap.size (fun k_=>P0_ k_) (.slice A0 l0.length c0) l0) (hs1_3 : Kd.V Kd.string 9 w w.heap.size (fun k_=>P1_3_ k_) (.slice A1_3 l1_3.length c1_3) l1_3) (h : r08_Put.f k l0 a1_0 a1_1 a1_2 l1_3 a1_4 a1_5 = some r) :
  Calls Tryz.prog 25 #[.slice A0 l0.length c0,.agg #[.int .i64 a1_0,.string a1_1,.string a1_2,.slice A1_3 l1_3.length c1_3,.string a1_4,.string a1_5]] w fun e w'=>∃ v0_ : Value,e = .returned (v0_) ∧ Kd.N k34 34 w' w.heap.size (fun k_=>((P0_ k_ ∨ P1_3_ k_) ∨ w.heap.size ≤ k_)) v0_ r ∧ Below w.heap.size w w':=by
 have hu34:=Tryz.underlying34
 have HO0:=As.mk (show Kd.V k34 34 w w.heap.size (fun k_=>((P0_ k_ ∨ P1_3_ k_) ∨ w.heap.size ≤ k_)) (.slice A0 l0.length c0) l0 from Kd.V_mono hs0 (fun k_ hk=>.inl (.inl hk)))
 have HO1_3:=As.mk (show Kd.V Kd.string 9 w w.heap.size (fun k_=>((P0_ k_ ∨ P1_3_ k_) ∨ w.heap.size ≤ k_)) (.slice A1_3 l1_3.length c1_3) l1_3 from Kd.V_mono hs1_3 (fun k_ hk=>.inl (.inr hk)))
 have HB:=As.mk (Below.refl w.heap.size w)
 have H : ((r07_Key.f k a1_0 a1_1 a1_2 l1_3 a1_4 a1_5).bind fun t202=>(r08_Put.l0 k l0 t202 ([] : List (S34)) false 0 a1_0 a1_1 a1_2 l1_3 a1_4 a1_5)) = some r:=h
 clear h
 replace H:=Option.bind_eq_some_iff.mp H
 obtain ⟨t202,A30,H⟩:=H
 replace H : (r08_Put.l0 k l0 t202 ([] : List (S34)) false 0 a1_0 a1_1 a1_2 l1_3 a1_4 a1_5) = some r:=H
 have A3:=As.mk A30
 clear A30
 have H':=As.mk H
 clear H
 go_enter Tryz.func25,Tryz.ntmps25
 go_wp2_with (first | ((with_reducible refine gate_dst (N:=3) rfl ?_);refine box_event ?hg (N:=3) ?hd (cs:=#[.int .i64 a1_0,.string a1_1,.string a1_2,.slice A1_3 l1_3.length c1_3,.string a1_4,.string a1_5]) (t:=34) ?hr ?_;(case hd=>rfl);(case hg=>rfl);(case hr=>first | (go_simp;done) | (go_simp;rfl));intro gb201 hg w4 hbox hb;have n0_:=As.mk (Kd.V_below (Kd.V_elderB (by (with_reducible repeat (first | apply Kd.V_alloc | apply Kd.V_drewN | apply Kd.V_drew));exact HO0.out) gb201 (Nat.le_of_eq hg.symm)) hb);have n1_:=As.mk (Kd.V_below (Kd.V_elderB (by (with_reducible repeat (first | apply Kd.V_alloc | apply Kd.V_drewN | apply Kd.V_drew));exact HO1_3.out) gb201 (Nat.le_of_eq hg.symm)) hb);have n2_:=As.mk (bS (by repeat (first | (with_reducible first | exact HB.out | apply bA | apply bN | apply bD) | exact HB.out)) hb);have n3_:=As.mk (hbox);have n4_:=As.mk ((by rw [hg];exact (bZ (by repeat (first | (with_reducible first | exact HB.out | apply bA | apply bN | apply bD) | exact HB.out))) : w.heap.size ≤ gb201));have n5_:=As.mk ((by rw [hg];exact (bZ (by repeat (first | (with_reducible first | exact HB.out | apply bA | apply bN | apply bD) | exact HB.out))) : w.heap.size ≤ gb201));clear HO0;clear HO1_3;clear HB;have HO0:=n0_;have HO1_3:=n1_;have HB:=n2_;have BK201:=n3_;have GW201:=n4_;have GE201:=n5_;clear n0_ n1_ n2_ n3_ n4_ n5_;clear hb hbox hg;have hcz5_0 : w4.cell? ⟨gb201,0,none⟩ = some (.int .i64 a1_0):=(bC BK201.out 0).trans rfl;have hcz5_1 : w4.cell? ⟨gb201,1,none⟩ = some (.string a1_1):=(bC BK201.out 1).trans rfl;have hcz5_2 : w4.cell? ⟨gb201,2,none⟩ = some (.string a1_2):=(bC BK201.out 2).trans rfl;have hcz5_3 : w4.cell? ⟨gb201,3,none⟩ = some (.slice A1_3 l1_3.length c1_3):=(bC BK201.out 3).trans rfl;have hcz5_4 : w4.cell? ⟨gb201,4,none⟩ = some (.string a1_4):=(bC BK201.out 4).trans rfl;have hcz5_5 : w4.cell? ⟨gb201,5,none⟩ = some (.string a1_5):=(bC BK201.out 5).trans rfl;have hfz5_0:=bF BK201.out 0;have hfz5_1:=bF BK201.out 1;have hfz5_2:=bF BK201.out 2;have hfz5_3:=bF BK201.out 3;have hfz5_4:=bF BK201.out 4;have hfz5_5:=bF BK201.out 5) | ((with_reducible refine gC (f:=62) rfl ?_);refine goesL_ (some 11) rfl rfl Tryz.func62 (by kernel_rfl) rfl #[.agg #[.int .i64 a1_0,.string a1_1,.string a1_2,.slice A1_3 l1_3.length c1_3,.string a1_4,.string a1_5]] rfl (by (try simp only [List.map_toArray,List.map_cons,List.map_nil]);first | done | rfl | (simp only [List.length_drop,List.length_take];rfl)) ?_;(with_reducible refine (r07_Key.calls k a1_0 a1_1 a1_2 _ _ l1_3 a1_4 a1_5 t202 _ ?side1 ?side2 A3.out).mono ?_);(case side1=>repeat (first | exact (Kd.V_reads' HO1_3.out).2.2 | (with_reducible refine Kd.C_alloc ?_ _) | (with_reducible refine Kd.C_drewN ?_ _) | (with_reducible refine Kd.C_drew ?_)));(case side2=>exact (Kd.V_reads' HO1_3.out).2.1);rintro e w6 ⟨rfl,hb⟩;refine ⟨_,rfl,?_⟩;have n0_:=As.mk (Kd.V_below (by (with_reducible repeat (first | apply Kd.V_alloc | apply Kd.V_drewN | apply Kd.V_drew));exact HO0.out) hb);have n1_:=As.mk (Kd.V_below (by (with_reducible repeat (first | apply Kd.V_alloc | apply Kd.V_drewN | apply Kd.V_drew));exact HO1_3.out) hb);have n2_:=As.mk (blk_below (g:=gb201) (o:=.cells #[.int .i64 a1_0,.string a1_1,.string a1_2,.slice A1_3 l1_3.length c1_3,.string a1_4,.string a1_5] 34 (0,0)) (by (with_reducible repeat (first | refine kN ?_ _ | refine kD ?_ | refine kA ?_ _));exact BK201.out) hb);have n3_:=As.mk (bS (by repeat (first | (with_reducible first | exact HB.out | apply bA | apply bN | apply bD | refine bT ?_ GE201.out) | exact HB.out)) hb);clear HO0;clear HO1_3;clear BK201;clear HB;have HO0:=n0_;have HO1_3:=n1_;have BK201:=n2_;have HB:=n3_;clear n0_ n1_ n2_ n3_;(try clear hb);(try clear hb2);(try clear hk);(try clear hi)))
 go_loopg [6,7,8] k (fun kq v6 v7 v8 w'=>∃ (x6_1 : List (S34)) (x7_1 : Bool) (x8_1 : Int),v7 = .bool x7_1 ∧ v8 = .int .i64 x8_1 ∧ As (r08_Put.l0 kq l0 t202 x6_1 x7_1 x8_1 a1_0 a1_1 a1_2 l1_3 a1_4 a1_5 = some r) ∧ As (kq ≤ k) ∧ As (Kd.V k34 34 w' w.heap.size (fun k_=>((P0_ k_ ∨ P1_3_ k_) ∨ w.heap.size ≤ k_) ∧ some k_ ≠ (v6 : Value).ownBlock ∧ k_ ≠ gb201) (.slice A0 l0.length c0) l0) ∧ As (Kd.N k34 34 w' w.heap.size (fun k_=>((P0_ k_ ∨ P1_3_ k_) ∨ w.heap.size ≤ k_) ∧ k_ ≠ gb201) v6 x6_1) ∧ As (Kd.V Kd.string 9 w' w.heap.size (fun k_=>((P0_ k_ ∨ P1_3_ k_) ∨ w.heap.size ≤ k_) ∧ some k_ ≠ (v6 : Value).ownBlock ∧ k_ ≠ gb201) (.slice A1_3 l1_3.length c1_3) l1_3) ∧ As (w'.heap[gb201]? = some (.cells #[.int .i64 a1_0,.string a1_1,.string a1_2,(.slice A1_3 l1_3.length c1_3),.string a1_4,.string a1_5] 34 (0,0))) ∧ As (Below w.heap.size w w'))
 case atStart=>exact ⟨(([] : List (S34))),(false),(0),(by first | rfl | (simp;done) | (simp [*];done)),(by first | rfl | (simp;done) | (simp [*];done)),H',⟨Nat.le_refl _⟩,⟨by (with_reducible repeat (first | apply Kd.V_alloc | apply Kd.V_drewN | apply Kd.V_drew));exact Kd.V_mono HO0.out (fun _ hk=>⟨hk.1,⟨(by simp [Value.ownBlock]),hk.2⟩⟩)⟩,⟨by first | exact Kd.S_nil _ _ _ _ _ | exact Kd.N_nil _ _ _ _ _ | exact Kd.V_nil _ _ _ _ _ | exact Kd.Q_nil _ _ _ _ _ | exact Kd.R_nil _ _ _ _ _⟩,⟨by (with_reducible repeat (first | apply Kd.V_alloc | apply Kd.V_drewN | apply Kd.V_drew));exact Kd.V_mono HO1_3.out (fun _ hk=>⟨hk.1,⟨(by simp [Value.ownBlock]),hk.2⟩⟩)⟩,⟨by (with_reducible repeat (first | refine kN ?_ _ | refine kD ?_ | refine kA ?_ _));exact BK201.out⟩,⟨by repeat (first | (with_reducible first | exact HB.out | apply bA | apply bN | apply bD | refine bT ?_ GE201.out) | exact HB.out)⟩⟩
 case round =>
  clear H'
  try clear c1
  try clear c2
  try clear p2
  try clear c6
  try clear hcz5_0
  try clear hcz5_1
  try clear hcz5_2
  try clear hcz5_3
  try clear hcz5_4
  try clear hcz5_5
  try clear hfz5_0
  try clear hfz5_1
  try clear hfz5_2
  try clear hfz5_3
  try clear hfz5_4
  try clear hfz5_5
  obtain ⟨x6_1,x7_1,x8_1,rfl,rfl,HA,HK1,HO_0,HO_6,HO_202003,BK201,HB⟩:=hrel
  cases gk with
  | zero=>exact absurd HA.out (by simp [r08_Put.l0])
  | succ k1 =>
   have H:=HA.out
   clear HA
   simp only [r08_Put.l0] at H
   by_cases c7 : x8_1 < (l0.length : Int)
   ·rw [if_pos c7] at H
    have c7b0 : decide (x8_1 < (l0.length : Int)) = true:=decide_eq_true c7
    clear c7
    by_cases c8 : 0 ≤ x8_1
    ·rw [if_pos c8] at H
     have c8b0 : decide (0 ≤ x8_1) = true:=decide_eq_true c8
     clear c8
     replace H:=Option.bind_eq_some_iff.mp H
     obtain ⟨t207,A90,H⟩:=H
     replace H : (if x7_1 = true then (r08_Put.j1 k1 l0 t202 x6_1 x7_1 x8_1 t207 false a1_0 a1_1 a1_2 l1_3 a1_4 a1_5) else (r08_Put.j1 k1 l0 t202 x6_1 x7_1 x8_1 t207 (!(Op.bytesLess t207.toList t202.toList)) a1_0 a1_1 a1_2 l1_3 a1_4 a1_5)) = some r:=H
     have A9:=As.mk A90
     clear A90
     have HC10:=As.mk H
     clear H
     have p206 : 0 ≤ (x8_1 : Int):=of_decide_eq_true (by first | (with_reducible assumption) | assumption)
     have q206 : x8_1 < (l0.length : Int):=of_decide_eq_true (by first | (with_reducible assumption) | assumption)
     obtain ⟨ad206,A206_3,c206_3,e206,hx206_0,hx206_1,hx206_2,hx206_3,hx206_4,hx206_5,hl206_3,hi206_3⟩:=at_T34 (Kd.V_reads' HO_0.out).2.2 x8_1 p206 q206
     cases e206
     obtain ⟨ce206,hce206,hMe206,hcc206⟩:=Kd.V_get HO_0.out z34 x8_1 p206 (by first | exact q206 | exact of_decide_eq_true (by first | (with_reducible assumption) | assumption) | (have e_:=(Kd.V_reads' HO_0.out).1;omega))
     obtain ⟨ua206_3,uc206_3,rfl,ul206_3,ge206_3⟩:=k34_openF hMe206
     have hv206_3:=hcc206 3 _ rfl
     rw [add_field _ _ 3 (by omega)] at hv206_3
     replace hv206_3:=Option.some.inj (hv206_3.symm.trans hx206_3)
     injection hv206_3 with hva_ hvn_ hvc_
     rw [hva_] at ge206_3
     rw [hvc_] at ul206_3
     have HL206_3:=As.mk (show Kd.V Kd.string 9 _ w.heap.size _ _ ((rd_T34 l0 x8_1).f3) from Kd.V_mk ul206_3 ge206_3)
     clear hva_ hvn_ hvc_ ge206_3 ul206_3
     clear hcc206 hce206
     have HR206_3:=As.mk hi206_3
     have HC206_3:=As.mk hl206_3
     clear hi206_3 hl206_3
     replace p206:=eq_true p206
     replace q206:=eq_true q206
     go_upto_region 8 with (first | ((with_reducible refine gC (f:=62) rfl ?_);refine goesL_ (some 22) rfl rfl Tryz.func62 (by kernel_rfl) rfl #[.agg #[.int .i64 ((rd_T34 l0 x8_1).f0),.string ((rd_T34 l0 x8_1).f1),.string ((rd_T34 l0 x8_1).f2),.slice A206_3 ((rd_T34 l0 x8_1).f3).length c206_3,.string ((rd_T34 l0 x8_1).f4),.string ((rd_T34 l0 x8_1).f5)]] rfl (by (try simp only [List.map_toArray,List.map_cons,List.map_nil]);first | done | rfl | (simp only [List.length_drop,List.length_take];rfl)) ?_;(with_reducible refine (r07_Key.calls k1 ((rd_T34 l0 x8_1).f0) ((rd_T34 l0 x8_1).f1) ((rd_T34 l0 x8_1).f2) _ _ ((rd_T34 l0 x8_1).f3) ((rd_T34 l0 x8_1).f4) ((rd_T34 l0 x8_1).f5) t207 _ ?side1 ?side2 A9.out).mono ?_);(case side1=>repeat (first | exact (by repeat (first | (with_reducible exact HR206_3.out) | (with_reducible refine Kd.C_alloc ?_ _) | (with_reducible refine Kd.C_drewN ?_ _) | (with_reducible refine Kd.C_drew ?_) | exact HR206_3.out)) | (with_reducible refine Kd.C_alloc ?_ _) | (with_reducible refine Kd.C_drewN ?_ _) | (with_reducible refine Kd.C_drew ?_)));(case side2=>exact HC206_3.out);rintro e w11 ⟨rfl,hb⟩;refine ⟨_,rfl,?_⟩;have n0_:=As.mk (Kd.V_below (by (with_reducible repeat (first | apply Kd.V_alloc | apply Kd.V_drewN | apply Kd.V_drew));exact HO_0.out) hb);have n1_:=As.mk (Kd.N_below (by (with_reducible repeat (first | apply Kd.N_alloc | apply Kd.N_drewN | apply Kd.N_drew));exact HO_6.out) hb);have n2_:=As.mk (Kd.V_below (by (with_reducible repeat (first | apply Kd.V_alloc | apply Kd.V_drewN | apply Kd.V_drew));exact HO_202003.out) hb);have n3_:=As.mk (Kd.V_below (by (with_reducible repeat (first | apply Kd.V_alloc | apply Kd.V_drewN | apply Kd.V_drew));exact HL206_3.out) hb);have n4_:=As.mk (blk_below (g:=gb201) (o:=.cells #[.int .i64 a1_0,.string a1_1,.string a1_2,.slice A1_3 l1_3.length c1_3,.string a1_4,.string a1_5] 34 (0,0)) (by (with_reducible repeat (first | refine kN ?_ _ | refine kD ?_ | refine kA ?_ _));exact BK201.out) hb);have n5_:=As.mk (Kd.C_below (by repeat (first | (with_reducible exact HR206_3.out) | (with_reducible refine Kd.C_alloc ?_ _) | (with_reducible refine Kd.C_drewN ?_ _) | (with_reducible refine Kd.C_drew ?_) | exact HR206_3.out)) hb);have n6_:=As.mk (bS (by repeat (first | (with_reducible first | exact HB.out | apply bA | apply bN | apply bD | refine bT ?_ GE201.out) | exact HB.out)) hb);clear HO_0;clear HO_6;clear HO_202003;clear HL206_3;clear BK201;clear HR206_3;clear HB;have HO_0:=n0_;have HO_6:=n1_;have HO_202003:=n2_;have HL206_3:=n3_;have BK201:=n4_;have HR206_3:=n5_;have HB:=n6_;clear n0_ n1_ n2_ n3_ n4_ n5_ n6_;(try clear hb);(try clear hb2);(try clear hk);(try clear hi)))
     (try simp only [Act.put,List.setIfInBounds_toArray,List.set_cons_zero,List.set_cons_succ])
     go_cut [29] (fun v29 wc=>∃ (kq : Nat) (x29_9 : Bool),v29 = .bool x29_9 ∧ As (r08_Put.j1 kq l0 t202 x6_1 x7_1 x8_1 t207 x29_9 a1_0 a1_1 a1_2 l1_3 a1_4 a1_5 = some r) ∧ As (kq ≤ k1) ∧ As (Kd.V k34 34 wc w.heap.size (fun k_=>((P0_ k_ ∨ P1_3_ k_) ∨ w.heap.size ≤ k_) ∧ some k_ ≠ (u6 : Value).ownBlock ∧ k_ ≠ gb201) (.slice (some ad206) l0.length c0) l0) ∧ As (Kd.N k34 34 wc w.heap.size (fun k_=>((P0_ k_ ∨ P1_3_ k_) ∨ w.heap.size ≤ k_) ∧ k_ ≠ gb201) u6 x6_1) ∧ As (Kd.V Kd.string 9 wc w.heap.size (fun k_=>((P0_ k_ ∨ P1_3_ k_) ∨ w.heap.size ≤ k_) ∧ some k_ ≠ (u6 : Value).ownBlock ∧ k_ ≠ gb201) (.slice A1_3 l1_3.length c1_3) l1_3) ∧ As (wc.heap[gb201]? = some (.cells #[.int .i64 a1_0,.string a1_1,.string a1_2,(.slice A1_3 l1_3.length c1_3),.string a1_4,.string a1_5] 34 (0,0))) ∧ As (Kd.C Kd.string wc A206_3 ((rd_T34 l0 x8_1).f3).length ((rd_T34 l0 x8_1).f3)) ∧ As (Below w.heap.size w wc))
     case first =>
      have H:=HC10.out
      clear HC10
      by_cases c12 : x7_1 = true
      ·subst c12
       have H1 : (r08_Put.j1 k1 l0 t202 x6_1 true x8_1 t207 false a1_0 a1_1 a1_2 l1_3 a1_4 a1_5) = some r:=by rw [if_pos rfl] at H;exact H
       clear H
       have H:=H1
       clear H1
       have H':=As.mk H
       clear H
       go_wp2
       go_meet
       case rel=>exact ⟨_,(false),(by first | rfl | (simp;done) | (simp [*];done)),H',⟨by have:=HK1.out;first | omega | exact Nat.le_refl _⟩,⟨by (with_reducible repeat (first | apply Kd.V_alloc | apply Kd.V_drewN | apply Kd.V_drew));exact HO_0.out⟩,⟨by (with_reducible repeat (first | apply Kd.N_alloc | apply Kd.N_drewN | apply Kd.N_drew));exact HO_6.out⟩,⟨by (with_reducible repeat (first | apply Kd.V_alloc | apply Kd.V_drewN | apply Kd.V_drew));exact HO_202003.out⟩,⟨by (with_reducible repeat (first | refine kN ?_ _ | refine kD ?_ | refine kA ?_ _));exact BK201.out⟩,⟨by repeat (first | (with_reducible exact HR206_3.out) | (with_reducible refine Kd.C_alloc ?_ _) | (with_reducible refine Kd.C_drewN ?_ _) | (with_reducible refine Kd.C_drew ?_) | exact HR206_3.out)⟩,⟨by repeat (first | (with_reducible first | exact HB.out | apply bA | apply bN | apply bD | refine bT ?_ GE201.out) | exact HB.out)⟩⟩
      ·replace c12:=Bool.eq_false_iff.mpr c12
       subst c12
       have H1 : (r08_Put.j1 k1 l0 t202 x6_1 false x8_1 t207 (!(Op.bytesLess t207.toList t202.toList)) a1_0 a1_1 a1_2 l1_3 a1_4 a1_5) = some r:=by rw [if_neg (show ¬ (false = true) by decide)] at H;exact H
       clear H
       have H:=H1
       clear H1
       have H':=As.mk H
       clear H
       go_wp2
       go_meet
       case rel=>exact ⟨_,(!(Op.bytesLess t207.toList t202.toList)),(by first | rfl | (simp;done) | (simp [*];done)),H',⟨by have:=HK1.out;first | omega | exact Nat.le_refl _⟩,⟨by (with_reducible repeat (first | apply Kd.V_alloc | apply Kd.V_drewN | apply Kd.V_drew));exact HO_0.out⟩,⟨by (with_reducible repeat (first | apply Kd.N_alloc | apply Kd.N_drewN | apply Kd.N_drew));exact HO_6.out⟩,⟨by (with_reducible repeat (first | apply Kd.V_alloc | apply Kd.V_drewN | apply Kd.V_drew));exact HO_202003.out⟩,⟨by (with_reducible repeat (first | refine kN ?_ _ | refine kD ?_ | refine kA ?_ _));exact BK201.out⟩,⟨by repeat (first | (with_reducible exact HR206_3.out) | (with_reducible refine Kd.C_alloc ?_ _) | (with_reducible refine Kd.C_drewN ?_ _) | (with_reducible refine Kd.C_drew ?_) | exact HR206_3.out)⟩,⟨by repeat (first | (with_reducible first | exact HB.out | apply bA | apply bN | apply bD | refine bT ?_ GE201.out) | exact HB.out)⟩⟩
     case rest =>
      clear HC10
      try clear c1
      try clear c2
      try clear p2
      try clear q2
      try clear hx2
      try clear c6
      try clear c7
      try clear c7b0
      try clear c8
      try clear c8b0
      try clear c12
      try clear hcz5_0
      try clear hcz5_1
      try clear hcz5_2
      try clear hcz5_3
      try clear hcz5_4
      try clear hcz5_5
      try clear hfz5_0
      try clear hfz5_1
      try clear hfz5_2
      try clear hfz5_3
      try clear hfz5_4
      try clear hfz5_5
      try clear hx206_0
      try clear hx206_1
      try clear hx206_2
      try clear hx206_3
      try clear hx206_4
      try clear hx206_5
      try clear p2
      try clear p206
      try clear q206
      obtain ⟨kq,x29_9,rfl,HA,HJ9,HO_0,HO_6,HO_202003,BK201,HR206_3,HB⟩:=hcut
      cases kq with
      | zero=>exact absurd HA.out (by simp [r08_Put.j1])
      | succ kj9 =>
       have H:=HA.out
       clear HA
       simp only [r08_Put.j1] at H
       by_cases c13 : x29_9 = true
       ·subst c13
        have H1 : (if x6_1.length < 1466015503701 then ((some (x6_1 ++ [(⟨a1_0,a1_1,a1_2,l1_3,a1_4,a1_5⟩ : S34)] : List (S34))).bind fun y208=>(if t207.toList = t202.toList then (r08_Put.l0 kj9 l0 t202 y208 true (wrap64 (x8_1 + 1)) a1_0 a1_1 a1_2 l1_3 a1_4 a1_5) else (if 0 ≤ x8_1 then (if x8_1 < (l0.length : Int) then (if y208.length < 1466015503701 then (r08_Put.l0 kj9 l0 t202 (y208 ++ [(⟨(rd_T34 l0 x8_1).f0,(rd_T34 l0 x8_1).f1,(rd_T34 l0 x8_1).f2,(rd_T34 l0 x8_1).f3,(rd_T34 l0 x8_1).f4,(rd_T34 l0 x8_1).f5⟩ : S34)]) true (wrap64 (x8_1 + 1)) a1_0 a1_1 a1_2 l1_3 a1_4 a1_5) else (none)) else (none)) else (none)))) else (none)) = some r:=by rw [if_pos rfl] at H;exact H
        clear H
        have H:=H1
        clear H1
        by_cases c14 : x6_1.length < 1466015503701
        ·rw [if_pos c14] at H
         have LMc14:=As.mk c14
         clear c14
         obtain ⟨y208,hy208⟩ : ∃ y_ : List (S34),y_ = (x6_1 ++ [(⟨a1_0,a1_1,a1_2,l1_3,a1_4,a1_5⟩ : S34)]):=⟨_,rfl⟩
         replace H : (if t207.toList = t202.toList then (r08_Put.l0 kj9 l0 t202 y208 true (wrap64 (x8_1 + 1)) a1_0 a1_1 a1_2 l1_3 a1_4 a1_5) else (if 0 ≤ x8_1 then (if x8_1 < (l0.length : Int) then (if y208.length < 1466015503701 then (r08_Put.l0 kj9 l0 t202 (y208 ++ [(⟨(rd_T34 l0 x8_1).f0,(rd_T34 l0 x8_1).f1,(rd_T34 l0 x8_1).f2,(rd_T34 l0 x8_1).f3,(rd_T34 l0 x8_1).f4,(rd_T34 l0 x8_1).f5⟩ : S34)]) true (wrap64 (x8_1 + 1)) a1_0 a1_1 a1_2 l1_3 a1_4 a1_5) else (none)) else (none)) else (none))) = some r:=by first | (rw [hy208];with_reducible exact H) | (have H2_:=(Option.bind_some _ _).symm.trans H;rw [hy208];with_reducible exact H2_) | (have H2_:=(Option.bind_some _ _).symm.trans H;with_reducible exact H2_) | with_reducible exact H | (rw [hy208];exact H) | exact H
         have Ny208:=As.mk hy208
         clear hy208
         by_cases c15 : t207.toList = t202.toList
         ·rw [if_pos c15] at H
          have c15b0 : (t207.toList == t202.toList) = true:=beq_iff_eq.mpr c15
          have c15b1 : (t207.toList != t202.toList) = false:=bne_eq_false_iff_eq.mpr c15
          clear c15
          have H':=As.mk H
          clear H
          have hcz16_0 : wc.cell? ⟨gb201,0,none⟩ = some (.int .i64 a1_0):=(bC BK201.out 0).trans rfl
          have hcz16_1 : wc.cell? ⟨gb201,1,none⟩ = some (.string a1_1):=(bC BK201.out 1).trans rfl
          have hcz16_2 : wc.cell? ⟨gb201,2,none⟩ = some (.string a1_2):=(bC BK201.out 2).trans rfl
          have hcz16_3 : wc.cell? ⟨gb201,3,none⟩ = some (.slice A1_3 l1_3.length c1_3):=(bC BK201.out 3).trans rfl
          have hcz16_4 : wc.cell? ⟨gb201,4,none⟩ = some (.string a1_4):=(bC BK201.out 4).trans rfl
          have hcz16_5 : wc.cell? ⟨gb201,5,none⟩ = some (.string a1_5):=(bC BK201.out 5).trans rfl
          have hfz16_0:=bF BK201.out 0
          have hfz16_1:=bF BK201.out 1
          have hfz16_2:=bF BK201.out 2
          have hfz16_3:=bF BK201.out 3
          have hfz16_4:=bF BK201.out 4
          have hfz16_5:=bF BK201.out 5
          go_wp2_with (first | ((with_reducible refine gB (b:=.append) (xs:=#[.tmp 30,.tmp 32]) rfl ?_);at_builtin;refine Kd.N_append k34 (w0:=w) w.heap.size rfl (.tmp 30) (.tmp 32) 22 34 (.agg #[(.int .i64 0),(.string ⟨#[]⟩),(.string ⟨#[]⟩),(.slice none 0 0),(.string ⟨#[]⟩),(.string ⟨#[]⟩)]) 96 rfl Tryz.underlying22 info34 rfl (by decide) (by omega) u6 x6_1 (⟨a1_0,a1_1,a1_2,l1_3,a1_4,a1_5⟩ : S34) [.int .i64 a1_0,.string a1_1,.string a1_2,.slice A1_3 l1_3.length c1_3,.string a1_4,.string a1_5] (fun k_=>((P0_ k_ ∨ P1_3_ k_) ∨ w.heap.size ≤ k_) ∧ k_ ≠ gb201) (fun k_=>((fun k_=>((P0_ k_ ∨ P1_3_ k_) ∨ w.heap.size ≤ k_) ∧ k_ ≠ gb201)) k_ ∧ some k_ ≠ (u6 : Value).ownBlock) rfl rfl ?aP (fun _ hk=>hk) ?aF ?aO ?aB ?aS ?aL ?_;(case aP=>exact (k34_mkF _ _ (⟨a1_0,a1_1,a1_2,l1_3,a1_4,a1_5⟩ : S34) (Kd.V_reads' (Kd.V_mono (ok':=(fun k_=>((fun k_=>((P0_ k_ ∨ P1_3_ k_) ∨ w.heap.size ≤ k_) ∧ k_ ≠ gb201)) k_ ∧ some k_ ≠ (u6 : Value).ownBlock)) (HO_202003.out) (fun k_ hk=>⟨⟨hk.1,hk.2.2⟩,hk.2.1⟩))).2.1 (Kd.V_F (Kd.V_mono (ok':=(fun k_=>((fun k_=>((P0_ k_ ∨ P1_3_ k_) ∨ w.heap.size ≤ k_) ∧ k_ ≠ gb201)) k_ ∧ some k_ ≠ (u6 : Value).ownBlock)) (HO_202003.out) (fun k_ hk=>⟨⟨hk.1,hk.2.2⟩,hk.2.1⟩)))));(case aB=>exact (by repeat (first | (with_reducible first | exact HB.out | apply bA | apply bN | apply bD | refine bT ?_ GE201.out) | exact HB.out)));(case aF=>exact (fun k_ hk=>⟨(.inr (Nat.le_trans (bZ (by repeat (first | (with_reducible first | exact HB.out | apply bA | apply bN | apply bD | refine bT ?_ GE201.out) | exact HB.out))) hk)),Kd.freshB (g:=gb201) (o:=.cells #[.int .i64 a1_0,.string a1_1,.string a1_2,.slice A1_3 l1_3.length c1_3,.string a1_4,.string a1_5] 34 (0,0)) (by (with_reducible repeat (first | refine kN ?_ _ | refine kD ?_ | refine kA ?_ _));exact BK201.out) k_ hk⟩));(case aO=>exact (by (with_reducible repeat (first | apply Kd.N_alloc | apply Kd.N_drewN | apply Kd.N_drew));exact HO_6.out));(case aS=>exact (bZ (by repeat (first | (with_reducible first | exact HB.out | apply bA | apply bN | apply bD | refine bT ?_ GE201.out) | exact HB.out))));(case aL=>have:=LMc14.out;omega);intro v209 w17 ho hb hg hat;rw [← Ny208.out] at ho;have n0_:=As.mk (Kd.V_afterv (ok:=(fun k_=>((P0_ k_ ∨ P1_3_ k_) ∨ w.heap.size ≤ k_) ∧ k_ ≠ gb201)) (by (with_reducible repeat (first | apply Kd.V_alloc | apply Kd.V_drewN | apply Kd.V_drew));exact Kd.V_mono HO_0.out (fun _ hk=>⟨⟨hk.1,hk.2.2⟩,hk.2.1⟩)) hg hat);have n1_:=As.mk (Kd.V_afterv (ok:=(fun k_=>((P0_ k_ ∨ P1_3_ k_) ∨ w.heap.size ≤ k_) ∧ k_ ≠ gb201)) (by (with_reducible repeat (first | apply Kd.V_alloc | apply Kd.V_drewN | apply Kd.V_drew));exact Kd.V_mono HO_202003.out (fun _ hk=>⟨⟨hk.1,hk.2.2⟩,hk.2.1⟩)) hg hat);have n2_:=As.mk (blk_grown (g:=gb201) (o:=.cells #[.int .i64 a1_0,.string a1_1,.string a1_2,.slice A1_3 l1_3.length c1_3,.string a1_4,.string a1_5] 34 (0,0)) (by (with_reducible repeat (first | refine kN ?_ _ | refine kD ?_ | refine kA ?_ _));exact BK201.out) hg (Kd.N_away HO_6.out (fun _ hk=>hk.2)));have n3_:=As.mk (hb);have n4_:=As.mk (ho);clear HO_0;clear HO_202003;clear BK201;clear HB;clear HO_6;have HO_0:=n0_;have HO_202003:=n1_;have BK201:=n2_;have HB:=n3_;have HO210:=n4_;clear n0_ n1_ n2_ n3_ n4_;clear ho hb hg hat))
          go_roundg kj9
          case measure=>have:=HK1.out;have:=HJ9.out;omega
          case rel=>exact ⟨(y208),(true),(wrap64 (x8_1 + 1)),(by first | rfl | (simp;done) | (simp [*];done)),(by first | rfl | (simp;done) | (simp [*];done)),H',⟨by have:=HK1.out;have:=HJ9.out;omega⟩,⟨by (with_reducible repeat (first | apply Kd.V_alloc | apply Kd.V_drewN | apply Kd.V_drew));exact Kd.V_mono HO_0.out (fun _ hk=>⟨hk.1.1,⟨hk.2,hk.1.2⟩⟩)⟩,⟨by (with_reducible repeat (first | apply Kd.N_alloc | apply Kd.N_drewN | apply Kd.N_drew));exact HO210.out⟩,⟨by (with_reducible repeat (first | apply Kd.V_alloc | apply Kd.V_drewN | apply Kd.V_drew));exact Kd.V_mono HO_202003.out (fun _ hk=>⟨hk.1.1,⟨hk.2,hk.1.2⟩⟩)⟩,⟨by (with_reducible repeat (first | refine kN ?_ _ | refine kD ?_ | refine kA ?_ _));exact BK201.out⟩,⟨by repeat (first | (with_reducible first | exact HB.out | apply bA | apply bN | apply bD | refine bT ?_ GE201.out) | exact HB.out)⟩⟩
         ·rw [if_neg c15] at H
          have c15b0 : (t207.toList == t202.toList) = false:=beq_eq_false_iff_ne.mpr c15
          have c15b1 : (t207.toList != t202.toList) = true:=bne_iff_ne.mpr c15
          by_cases c18 : 0 ≤ x8_1
          ·rw [if_pos c18] at H
           have c18b0 : decide (0 ≤ x8_1) = true:=decide_eq_true c18
           clear c18
           by_cases c19 : x8_1 < (l0.length : Int)
           ·rw [if_pos c19] at H
            have c19b0 : decide (x8_1 < (l0.length : Int)) = true:=decide_eq_true c19
            clear c19
            by_cases c20 : y208.length < 1466015503701
            ·rw [if_pos c20] at H
             have LMc20:=As.mk c20
             clear c20
             obtain ⟨y212,hy212⟩ : ∃ y_ : List (S34),y_ = (y208 ++ [(⟨(rd_T34 l0 x8_1).f0,(rd_T34 l0 x8_1).f1,(rd_T34 l0 x8_1).f2,(rd_T34 l0 x8_1).f3,(rd_T34 l0 x8_1).f4,(rd_T34 l0 x8_1).f5⟩ : S34)]):=⟨_,rfl⟩
             replace H : (r08_Put.l0 kj9 l0 t202 y212 true (wrap64 (x8_1 + 1)) a1_0 a1_1 a1_2 l1_3 a1_4 a1_5) = some r:=by first | (rw [hy212];with_reducible exact H) | (have H2_:=(Option.bind_some _ _).symm.trans H;rw [hy212];with_reducible exact H2_) | (have H2_:=(Option.bind_some _ _).symm.trans H;with_reducible exact H2_) | with_reducible exact H | (rw [hy212];exact H) | exact H
             have Ny212:=As.mk hy212
             clear hy212
             have H':=As.mk H
             clear H
             have hcz21_0 : wc.cell? ⟨gb201,0,none⟩ = some (.int .i64 a1_0):=(bC BK201.out 0).trans rfl
             have hcz21_1 : wc.cell? ⟨gb201,1,none⟩ = some (.string a1_1):=(bC BK201.out 1).trans rfl
             have hcz21_2 : wc.cell? ⟨gb201,2,none⟩ = some (.string a1_2):=(bC BK201.out 2).trans rfl
             have hcz21_3 : wc.cell? ⟨gb201,3,none⟩ = some (.slice A1_3 l1_3.length c1_3):=(bC BK201.out 3).trans rfl
             have hcz21_4 : wc.cell? ⟨gb201,4,none⟩ = some (.string a1_4):=(bC BK201.out 4).trans rfl
             have hcz21_5 : wc.cell? ⟨gb201,5,none⟩ = some (.string a1_5):=(bC BK201.out 5).trans rfl
             have hfz21_0:=bF BK201.out 0
             have hfz21_1:=bF BK201.out 1
             have hfz21_2:=bF BK201.out 2
             have hfz21_3:=bF BK201.out 3
             have hfz21_4:=bF BK201.out 4
             have hfz21_5:=bF BK201.out 5
             go_wp2_with (first | ((with_reducible refine gB (b:=.append) (xs:=#[.tmp 30,.tmp 32]) rfl ?_);at_builtin;refine Kd.N_append k34 (w0:=w) w.heap.size rfl (.tmp 30) (.tmp 32) 22 34 (.agg #[(.int .i64 0),(.string ⟨#[]⟩),(.string ⟨#[]⟩),(.slice none 0 0),(.string ⟨#[]⟩),(.string ⟨#[]⟩)]) 96 rfl Tryz.underlying22 info34 rfl (by decide) (by omega) u6 x6_1 (⟨a1_0,a1_1,a1_2,l1_3,a1_4,a1_5⟩ : S34) [.int .i64 a1_0,.string a1_1,.string a1_2,.slice A1_3 l1_3.length c1_3,.string a1_4,.string a1_5] (fun k_=>((P0_ k_ ∨ P1_3_ k_) ∨ w.heap.size ≤ k_) ∧ k_ ≠ gb201) (fun k_=>((fun k_=>((P0_ k_ ∨ P1_3_ k_) ∨ w.heap.size ≤ k_) ∧ k_ ≠ gb201)) k_ ∧ some k_ ≠ (u6 : Value).ownBlock) rfl rfl ?aP (fun _ hk=>hk) ?aF ?aO ?aB ?aS ?aL ?_;(case aP=>exact (k34_mkF _ _ (⟨a1_0,a1_1,a1_2,l1_3,a1_4,a1_5⟩ : S34) (Kd.V_reads' (Kd.V_mono (ok':=(fun k_=>((fun k_=>((P0_ k_ ∨ P1_3_ k_) ∨ w.heap.size ≤ k_) ∧ k_ ≠ gb201)) k_ ∧ some k_ ≠ (u6 : Value).ownBlock)) (HO_202003.out) (fun k_ hk=>⟨⟨hk.1,hk.2.2⟩,hk.2.1⟩))).2.1 (Kd.V_F (Kd.V_mono (ok':=(fun k_=>((fun k_=>((P0_ k_ ∨ P1_3_ k_) ∨ w.heap.size ≤ k_) ∧ k_ ≠ gb201)) k_ ∧ some k_ ≠ (u6 : Value).ownBlock)) (HO_202003.out) (fun k_ hk=>⟨⟨hk.1,hk.2.2⟩,hk.2.1⟩)))));(case aB=>exact (by repeat (first | (with_reducible first | exact HB.out | apply bA | apply bN | apply bD | refine bT ?_ GE201.out) | exact HB.out)));(case aF=>exact (fun k_ hk=>⟨(.inr (Nat.le_trans (bZ (by repeat (first | (with_reducible first | exact HB.out | apply bA | apply bN | apply bD | refine bT ?_ GE201.out) | exact HB.out))) hk)),Kd.freshB (g:=gb201) (o:=.cells #[.int .i64 a1_0,.string a1_1,.string a1_2,.slice A1_3 l1_3.length c1_3,.string a1_4,.string a1_5] 34 (0,0)) (by (with_reducible repeat (first | refine kN ?_ _ | refine kD ?_ | refine kA ?_ _));exact BK201.out) k_ hk⟩));(case aO=>exact (by (with_reducible repeat (first | apply Kd.N_alloc | apply Kd.N_drewN | apply Kd.N_drew));exact HO_6.out));(case aS=>exact (bZ (by repeat (first | (with_reducible first | exact HB.out | apply bA | apply bN | apply bD | refine bT ?_ GE201.out) | exact HB.out))));(case aL=>have:=LMc14.out;omega);intro v209 w22 ho hb hg hat;rw [← Ny208.out] at ho;have n0_:=As.mk (Kd.V_afterv (ok:=(fun k_=>((P0_ k_ ∨ P1_3_ k_) ∨ w.heap.size ≤ k_) ∧ k_ ≠ gb201)) (by (with_reducible repeat (first | apply Kd.V_alloc | apply Kd.V_drewN | apply Kd.V_drew));exact Kd.V_mono HO_0.out (fun _ hk=>⟨⟨hk.1,hk.2.2⟩,hk.2.1⟩)) hg hat);have n1_:=As.mk (Kd.V_afterv (ok:=(fun k_=>((P0_ k_ ∨ P1_3_ k_) ∨ w.heap.size ≤ k_) ∧ k_ ≠ gb201)) (by (with_reducible repeat (first | apply Kd.V_alloc | apply Kd.V_drewN | apply Kd.V_drew));exact Kd.V_mono HO_202003.out (fun _ hk=>⟨⟨hk.1,hk.2.2⟩,hk.2.1⟩)) hg hat);have n2_:=As.mk (blk_grown (g:=gb201) (o:=.cells #[.int .i64 a1_0,.string a1_1,.string a1_2,.slice A1_3 l1_3.length c1_3,.string a1_4,.string a1_5] 34 (0,0)) (by (with_reducible repeat (first | refine kN ?_ _ | refine kD ?_ | refine kA ?_ _));exact BK201.out) hg (Kd.N_away HO_6.out (fun _ hk=>hk.2)));have n3_:=As.mk (hb);have n4_:=As.mk (ho);clear HO_0;clear HO_202003;clear BK201;clear HB;clear HO_6;have HO_0:=n0_;have HO_202003:=n1_;have BK201:=n2_;have HB:=n3_;have HO210:=n4_;clear n0_ n1_ n2_ n3_ n4_;clear ho hb hg hat;have p211 : 0 ≤ (x8_1 : Int):=of_decide_eq_true (by first | (with_reducible assumption) | assumption);have q211 : x8_1 < (l0.length : Int):=of_decide_eq_true (by first | (with_reducible assumption) | assumption);obtain ⟨ad211,A211_3,c211_3,e211,hx211_0,hx211_1,hx211_2,hx211_3,hx211_4,hx211_5,hl211_3,hi211_3⟩:=at_T34 (Kd.V_reads' HO_0.out).2.2 x8_1 p211 q211;obtain rfl : ad206 = ad211:=(by injection e211);obtain ⟨ce211,hce211,hMe211,hcc211⟩:=Kd.V_get HO_0.out z34 x8_1 p211 (by first | exact q211 | exact of_decide_eq_true (by first | (with_reducible assumption) | assumption) | (have e_:=(Kd.V_reads' HO_0.out).1;omega));obtain ⟨ua211_3,uc211_3,rfl,ul211_3,ge211_3⟩:=k34_openF hMe211;have hv211_3:=hcc211 3 _ rfl;rw [add_field _ _ 3 (by omega)] at hv211_3;replace hv211_3:=Option.some.inj (hv211_3.symm.trans hx211_3);injection hv211_3 with hva_ hvn_ hvc_;rw [hva_] at ge211_3;rw [hvc_] at ul211_3;have HL211_3:=As.mk (show Kd.V Kd.string 9 _ w.heap.size _ _ ((rd_T34 l0 x8_1).f3) from Kd.V_mk ul211_3 ge211_3);clear hva_ hvn_ hvc_ ge211_3 ul211_3;clear hcc211 hce211;have HR211_3:=As.mk hi211_3;have HC211_3:=As.mk hl211_3;clear hi211_3 hl211_3;replace p211:=eq_true p211;replace q211:=eq_true q211) | ((with_reducible refine gB (b:=.append) (xs:=#[.tmp 37,.tmp 42]) rfl ?_);at_builtin;refine Kd.N_append k34 (w0:=w) w.heap.size rfl (.tmp 37) (.tmp 42) 22 34 (.agg #[(.int .i64 0),(.string ⟨#[]⟩),(.string ⟨#[]⟩),(.slice none 0 0),(.string ⟨#[]⟩),(.string ⟨#[]⟩)]) 96 rfl Tryz.underlying22 info34 rfl (by decide) (by omega) v209 y208 (⟨(rd_T34 l0 x8_1).f0,(rd_T34 l0 x8_1).f1,(rd_T34 l0 x8_1).f2,(rd_T34 l0 x8_1).f3,(rd_T34 l0 x8_1).f4,(rd_T34 l0 x8_1).f5⟩ : S34) [.int .i64 ((rd_T34 l0 x8_1).f0),.string ((rd_T34 l0 x8_1).f1),.string ((rd_T34 l0 x8_1).f2),.slice A211_3 ((rd_T34 l0 x8_1).f3).length c211_3,.string ((rd_T34 l0 x8_1).f4),.string ((rd_T34 l0 x8_1).f5)] (fun k_=>((P0_ k_ ∨ P1_3_ k_) ∨ w.heap.size ≤ k_) ∧ k_ ≠ gb201) (fun k_=>((fun k_=>((P0_ k_ ∨ P1_3_ k_) ∨ w.heap.size ≤ k_) ∧ k_ ≠ gb201)) k_ ∧ some k_ ≠ (v209 : Value).ownBlock) rfl rfl ?aP (fun _ hk=>hk) ?aF ?aO ?aB ?aS ?aL ?_;(case aP=>exact (k34_mkF _ _ (⟨(rd_T34 l0 x8_1).f0,(rd_T34 l0 x8_1).f1,(rd_T34 l0 x8_1).f2,(rd_T34 l0 x8_1).f3,(rd_T34 l0 x8_1).f4,(rd_T34 l0 x8_1).f5⟩ : S34) (Kd.V_reads' (Kd.V_mono (ok':=(fun k_=>((fun k_=>((P0_ k_ ∨ P1_3_ k_) ∨ w.heap.size ≤ k_) ∧ k_ ≠ gb201)) k_ ∧ some k_ ≠ (v209 : Value).ownBlock)) (HL211_3.out) (fun k_ hk=>⟨⟨hk.1.1,hk.1.2⟩,hk.2⟩))).2.1 (Kd.V_F (Kd.V_mono (ok':=(fun k_=>((fun k_=>((P0_ k_ ∨ P1_3_ k_) ∨ w.heap.size ≤ k_) ∧ k_ ≠ gb201)) k_ ∧ some k_ ≠ (v209 : Value).ownBlock)) (HL211_3.out) (fun k_ hk=>⟨⟨hk.1.1,hk.1.2⟩,hk.2⟩)))));(case aB=>exact (by repeat (first | (with_reducible first | exact HB.out | apply bA | apply bN | apply bD | refine bT ?_ GE201.out) | exact HB.out)));(case aF=>exact (fun k_ hk=>⟨(.inr (Nat.le_trans (bZ (by repeat (first | (with_reducible first | exact HB.out | apply bA | apply bN | apply bD | refine bT ?_ GE201.out) | exact HB.out))) hk)),Kd.freshB (g:=gb201) (o:=.cells #[.int .i64 a1_0,.string a1_1,.string a1_2,.slice A1_3 l1_3.length c1_3,.string a1_4,.string a1_5] 34 (0,0)) (by (with_reducible repeat (first | refine kN ?_ _ | refine kD ?_ | refine kA ?_ _));exact BK201.out) k_ hk⟩));(case aO=>exact (by (with_reducible repeat (first | apply Kd.N_alloc | apply Kd.N_drewN | apply Kd.N_drew));exact HO210.out));(case aS=>exact (bZ (by repeat (first | (with_reducible first | exact HB.out | apply bA | apply bN | apply bD | refine bT ?_ GE201.out) | exact HB.out))));(case aL=>have:=LMc20.out;omega);intro v213 w23 ho hb hg hat;rw [← Ny212.out] at ho;have n0_:=As.mk (Kd.V_afterv (ok:=(fun k_=>((P0_ k_ ∨ P1_3_ k_) ∨ w.heap.size ≤ k_) ∧ k_ ≠ gb201)) (by (with_reducible repeat (first | apply Kd.V_alloc | apply Kd.V_drewN | apply Kd.V_drew));exact HO_0.out) hg hat);have n1_:=As.mk (Kd.V_afterv (ok:=(fun k_=>((P0_ k_ ∨ P1_3_ k_) ∨ w.heap.size ≤ k_) ∧ k_ ≠ gb201)) (by (with_reducible repeat (first | apply Kd.V_alloc | apply Kd.V_drewN | apply Kd.V_drew));exact HO_202003.out) hg hat);have n2_:=As.mk (blk_grown (g:=gb201) (o:=.cells #[.int .i64 a1_0,.string a1_1,.string a1_2,.slice A1_3 l1_3.length c1_3,.string a1_4,.string a1_5] 34 (0,0)) (by (with_reducible repeat (first | refine kN ?_ _ | refine kD ?_ | refine kA ?_ _));exact BK201.out) hg (Kd.N_away HO210.out (fun _ hk=>hk.2)));have n3_:=As.mk (Kd.V_afterv (ok:=(fun k_=>((P0_ k_ ∨ P1_3_ k_) ∨ w.heap.size ≤ k_) ∧ k_ ≠ gb201)) (by (with_reducible repeat (first | apply Kd.V_alloc | apply Kd.V_drewN | apply Kd.V_drew));exact HL211_3.out) hg hat);have n4_:=As.mk (hb);have n5_:=As.mk (ho);clear HO_0;clear HO_202003;clear BK201;clear HL211_3;clear HB;clear HO210;have HO_0:=n0_;have HO_202003:=n1_;have BK201:=n2_;have HL211_3:=n3_;have HB:=n4_;have HO214:=n5_;clear n0_ n1_ n2_ n3_ n4_ n5_;clear ho hb hg hat))
             go_roundg kj9
             case measure=>have:=HK1.out;have:=HJ9.out;omega
             case rel=>exact ⟨(y212),(true),(wrap64 (x8_1 + 1)),(by first | rfl | (simp;done) | (simp [*];done)),(by first | rfl | (simp;done) | (simp [*];done)),H',⟨by have:=HK1.out;have:=HJ9.out;omega⟩,⟨by (with_reducible repeat (first | apply Kd.V_alloc | apply Kd.V_drewN | apply Kd.V_drew));exact Kd.V_mono HO_0.out (fun _ hk=>⟨hk.1.1,⟨hk.2,hk.1.2⟩⟩)⟩,⟨by (with_reducible repeat (first | apply Kd.N_alloc | apply Kd.N_drewN | apply Kd.N_drew));exact HO214.out⟩,⟨by (with_reducible repeat (first | apply Kd.V_alloc | apply Kd.V_drewN | apply Kd.V_drew));exact Kd.V_mono HO_202003.out (fun _ hk=>⟨hk.1.1,⟨hk.2,hk.1.2⟩⟩)⟩,⟨by (with_reducible repeat (first | refine kN ?_ _ | refine kD ?_ | refine kA ?_ _));exact BK201.out⟩,⟨by repeat (first | (with_reducible first | exact HB.out | apply bA | apply bN | apply bD | refine bT ?_ GE201.out) | exact HB.out)⟩⟩
            ·rw [if_neg c20] at H
             exact absurd H (by simp)
           ·rw [if_neg c19] at H
            exact absurd H (by simp)
          ·rw [if_neg c18] at H
           exact absurd H (by simp)
        ·rw [if_neg c14] at H
         exact absurd H (by simp)
       ·replace c13:=Bool.eq_false_iff.mpr c13
        subst c13
        have H1 : (if t207.toList = t202.toList then (r08_Put.l0 kj9 l0 t202 x6_1 x7_1 (wrap64 (x8_1 + 1)) a1_0 a1_1 a1_2 l1_3 a1_4 a1_5) else (if 0 ≤ x8_1 then (if x8_1 < (l0.length : Int) then (if x6_1.length < 1466015503701 then (r08_Put.l0 kj9 l0 t202 (x6_1 ++ [(⟨(rd_T34 l0 x8_1).f0,(rd_T34 l0 x8_1).f1,(rd_T34 l0 x8_1).f2,(rd_T34 l0 x8_1).f3,(rd_T34 l0 x8_1).f4,(rd_T34 l0 x8_1).f5⟩ : S34)]) x7_1 (wrap64 (x8_1 + 1)) a1_0 a1_1 a1_2 l1_3 a1_4 a1_5) else (none)) else (none)) else (none))) = some r:=by rw [if_neg (show ¬ (false = true) by decide)] at H;exact H
        clear H
        have H:=H1
        clear H1
        by_cases c24 : t207.toList = t202.toList
        ·rw [if_pos c24] at H
         have c24b0 : (t207.toList == t202.toList) = true:=beq_iff_eq.mpr c24
         have c24b1 : (t207.toList != t202.toList) = false:=bne_eq_false_iff_eq.mpr c24
         clear c24
         have H':=As.mk H
         clear H
         go_wp2
         go_roundg kj9
         case measure=>have:=HK1.out;have:=HJ9.out;omega
         case rel=>exact ⟨(x6_1),(x7_1),(wrap64 (x8_1 + 1)),(by first | rfl | (simp;done) | (simp [*];done)),(by first | rfl | (simp;done) | (simp [*];done)),H',⟨by have:=HK1.out;have:=HJ9.out;omega⟩,⟨by (with_reducible repeat (first | apply Kd.V_alloc | apply Kd.V_drewN | apply Kd.V_drew));exact HO_0.out⟩,⟨by (with_reducible repeat (first | apply Kd.N_alloc | apply Kd.N_drewN | apply Kd.N_drew));exact HO_6.out⟩,⟨by (with_reducible repeat (first | apply Kd.V_alloc | apply Kd.V_drewN | apply Kd.V_drew));exact HO_202003.out⟩,⟨by (with_reducible repeat (first | refine kN ?_ _ | refine kD ?_ | refine kA ?_ _));exact BK201.out⟩,⟨by repeat (first | (with_reducible first | exact HB.out | apply bA | apply bN | apply bD | refine bT ?_ GE201.out) | exact HB.out)⟩⟩
        ·rw [if_neg c24] at H
         have c24b0 : (t207.toList == t202.toList) = false:=beq_eq_false_iff_ne.mpr c24
         have c24b1 : (t207.toList != t202.toList) = true:=bne_iff_ne.mpr c24
         by_cases c25 : 0 ≤ x8_1
         ·rw [if_pos c25] at H
          have c25b0 : decide (0 ≤ x8_1) = true:=decide_eq_true c25
          clear c25
          by_cases c26 : x8_1 < (l0.length : Int)
          ·rw [if_pos c26] at H
           have c26b0 : decide (x8_1 < (l0.length : Int)) = true:=decide_eq_true c26
           clear c26
           by_cases c27 : x6_1.length < 1466015503701
           ·rw [if_pos c27] at H
            have LMc27:=As.mk c27
            clear c27
            obtain ⟨y216,hy216⟩ : ∃ y_ : List (S34),y_ = (x6_1 ++ [(⟨(rd_T34 l0 x8_1).f0,(rd_T34 l0 x8_1).f1,(rd_T34 l0 x8_1).f2,(rd_T34 l0 x8_1).f3,(rd_T34 l0 x8_1).f4,(rd_T34 l0 x8_1).f5⟩ : S34)]):=⟨_,rfl⟩
            replace H : (r08_Put.l0 kj9 l0 t202 y216 x7_1 (wrap64 (x8_1 + 1)) a1_0 a1_1 a1_2 l1_3 a1_4 a1_5) = some r:=by first | (rw [hy216];with_reducible exact H) | (have H2_:=(Option.bind_some _ _).symm.trans H;rw [hy216];with_reducible exact H2_) | (have H2_:=(Option.bind_some _ _).symm.trans H;with_reducible exact H2_) | with_reducible exact H | (rw [hy216];exact H) | exact H
            have Ny216:=As.mk hy216
            clear hy216
            have H':=As.mk H
            clear H
            have p215 : 0 ≤ (x8_1 : Int):=of_decide_eq_true (by first | (with_reducible assumption) | assumption)
            have q215 : x8_1 < (l0.length : Int):=of_decide_eq_true (by first | (with_reducible assumption) | assumption)
            obtain ⟨ad215,A215_3,c215_3,e215,hx215_0,hx215_1,hx215_2,hx215_3,hx215_4,hx215_5,hl215_3,hi215_3⟩:=at_T34 (Kd.V_reads' HO_0.out).2.2 x8_1 p215 q215
            obtain rfl : ad206 = ad215:=(by injection e215)
            obtain ⟨ce215,hce215,hMe215,hcc215⟩:=Kd.V_get HO_0.out z34 x8_1 p215 (by first | exact q215 | exact of_decide_eq_true (by first | (with_reducible assumption) | assumption) | (have e_:=(Kd.V_reads' HO_0.out).1;omega))
            obtain ⟨ua215_3,uc215_3,rfl,ul215_3,ge215_3⟩:=k34_openF hMe215
            have hv215_3:=hcc215 3 _ rfl
            rw [add_field _ _ 3 (by omega)] at hv215_3
            replace hv215_3:=Option.some.inj (hv215_3.symm.trans hx215_3)
            injection hv215_3 with hva_ hvn_ hvc_
            rw [hva_] at ge215_3
            rw [hvc_] at ul215_3
            have HL215_3:=As.mk (show Kd.V Kd.string 9 _ w.heap.size _ _ ((rd_T34 l0 x8_1).f3) from Kd.V_mk ul215_3 ge215_3)
            clear hva_ hvn_ hvc_ ge215_3 ul215_3
            clear hcc215 hce215
            have HR215_3:=As.mk hi215_3
            have HC215_3:=As.mk hl215_3
            clear hi215_3 hl215_3
            replace p215:=eq_true p215
            replace q215:=eq_true q215
            go_wp2_with (first | ((with_reducible refine gB (b:=.append) (xs:=#[.tmp 37,.tmp 42]) rfl ?_);at_builtin;refine Kd.N_append k34 (w0:=w) w.heap.size rfl (.tmp 37) (.tmp 42) 22 34 (.agg #[(.int .i64 0),(.string ⟨#[]⟩),(.string ⟨#[]⟩),(.slice none 0 0),(.string ⟨#[]⟩),(.string ⟨#[]⟩)]) 96 rfl Tryz.underlying22 info34 rfl (by decide) (by omega) u6 x6_1 (⟨(rd_T34 l0 x8_1).f0,(rd_T34 l0 x8_1).f1,(rd_T34 l0 x8_1).f2,(rd_T34 l0 x8_1).f3,(rd_T34 l0 x8_1).f4,(rd_T34 l0 x8_1).f5⟩ : S34) [.int .i64 ((rd_T34 l0 x8_1).f0),.string ((rd_T34 l0 x8_1).f1),.string ((rd_T34 l0 x8_1).f2),.slice A215_3 ((rd_T34 l0 x8_1).f3).length c215_3,.string ((rd_T34 l0 x8_1).f4),.string ((rd_T34 l0 x8_1).f5)] (fun k_=>((P0_ k_ ∨ P1_3_ k_) ∨ w.heap.size ≤ k_) ∧ k_ ≠ gb201) (fun k_=>((fun k_=>((P0_ k_ ∨ P1_3_ k_) ∨ w.heap.size ≤ k_) ∧ k_ ≠ gb201)) k_ ∧ some k_ ≠ (u6 : Value).ownBlock) rfl rfl ?aP (fun _ hk=>hk) ?aF ?aO ?aB ?aS ?aL ?_;(case aP=>exact (k34_mkF _ _ (⟨(rd_T34 l0 x8_1).f0,(rd_T34 l0 x8_1).f1,(rd_T34 l0 x8_1).f2,(rd_T34 l0 x8_1).f3,(rd_T34 l0 x8_1).f4,(rd_T34 l0 x8_1).f5⟩ : S34) (Kd.V_reads' (Kd.V_mono (ok':=(fun k_=>((fun k_=>((P0_ k_ ∨ P1_3_ k_) ∨ w.heap.size ≤ k_) ∧ k_ ≠ gb201)) k_ ∧ some k_ ≠ (u6 : Value).ownBlock)) (HL215_3.out) (fun k_ hk=>⟨⟨hk.1,hk.2.2⟩,hk.2.1⟩))).2.1 (Kd.V_F (Kd.V_mono (ok':=(fun k_=>((fun k_=>((P0_ k_ ∨ P1_3_ k_) ∨ w.heap.size ≤ k_) ∧ k_ ≠ gb201)) k_ ∧ some k_ ≠ (u6 : Value).ownBlock)) (HL215_3.out) (fun k_ hk=>⟨⟨hk.1,hk.2.2⟩,hk.2.1⟩)))));(case aB=>exact (by repeat (first | (with_reducible first | exact HB.out | apply bA | apply bN | apply bD | refine bT ?_ GE201.out) | exact HB.out)));(case aF=>exact (fun k_ hk=>⟨(.inr (Nat.le_trans (bZ (by repeat (first | (with_reducible first | exact HB.out | apply bA | apply bN | apply bD | refine bT ?_ GE201.out) | exact HB.out))) hk)),Kd.freshB (g:=gb201) (o:=.cells #[.int .i64 a1_0,.string a1_1,.string a1_2,.slice A1_3 l1_3.length c1_3,.string a1_4,.string a1_5] 34 (0,0)) (by (with_reducible repeat (first | refine kN ?_ _ | refine kD ?_ | refine kA ?_ _));exact BK201.out) k_ hk⟩));(case aO=>exact (by (with_reducible repeat (first | apply Kd.N_alloc | apply Kd.N_drewN | apply Kd.N_drew));exact HO_6.out));(case aS=>exact (bZ (by repeat (first | (with_reducible first | exact HB.out | apply bA | apply bN | apply bD | refine bT ?_ GE201.out) | exact HB.out))));(case aL=>have:=LMc27.out;omega);intro v217 w28 ho hb hg hat;rw [← Ny216.out] at ho;have n0_:=As.mk (Kd.V_afterv (ok:=(fun k_=>((P0_ k_ ∨ P1_3_ k_) ∨ w.heap.size ≤ k_) ∧ k_ ≠ gb201)) (by (with_reducible repeat (first | apply Kd.V_alloc | apply Kd.V_drewN | apply Kd.V_drew));exact Kd.V_mono HO_0.out (fun _ hk=>⟨⟨hk.1,hk.2.2⟩,hk.2.1⟩)) hg hat);have n1_:=As.mk (Kd.V_afterv (ok:=(fun k_=>((P0_ k_ ∨ P1_3_ k_) ∨ w.heap.size ≤ k_) ∧ k_ ≠ gb201)) (by (with_reducible repeat (first | apply Kd.V_alloc | apply Kd.V_drewN | apply Kd.V_drew));exact Kd.V_mono HO_202003.out (fun _ hk=>⟨⟨hk.1,hk.2.2⟩,hk.2.1⟩)) hg hat);have n2_:=As.mk (blk_grown (g:=gb201) (o:=.cells #[.int .i64 a1_0,.string a1_1,.string a1_2,.slice A1_3 l1_3.length c1_3,.string a1_4,.string a1_5] 34 (0,0)) (by (with_reducible repeat (first | refine kN ?_ _ | refine kD ?_ | refine kA ?_ _));exact BK201.out) hg (Kd.N_away HO_6.out (fun _ hk=>hk.2)));have n3_:=As.mk (Kd.V_afterv (ok:=(fun k_=>((P0_ k_ ∨ P1_3_ k_) ∨ w.heap.size ≤ k_) ∧ k_ ≠ gb201)) (by (with_reducible repeat (first | apply Kd.V_alloc | apply Kd.V_drewN | apply Kd.V_drew));exact Kd.V_mono HL215_3.out (fun _ hk=>⟨⟨hk.1,hk.2.2⟩,hk.2.1⟩)) hg hat);have n4_:=As.mk (hb);have n5_:=As.mk (ho);clear HO_0;clear HO_202003;clear BK201;clear HL215_3;clear HB;clear HO_6;have HO_0:=n0_;have HO_202003:=n1_;have BK201:=n2_;have HL215_3:=n3_;have HB:=n4_;have HO218:=n5_;clear n0_ n1_ n2_ n3_ n4_ n5_;clear ho hb hg hat))
            go_roundg kj9
            case measure=>have:=HK1.out;have:=HJ9.out;omega
            case rel=>exact ⟨(y216),(x7_1),(wrap64 (x8_1 + 1)),(by first | rfl | (simp;done) | (simp [*];done)),(by first | rfl | (simp;done) | (simp [*];done)),H',⟨by have:=HK1.out;have:=HJ9.out;omega⟩,⟨by (with_reducible repeat (first | apply Kd.V_alloc | apply Kd.V_drewN | apply Kd.V_drew));exact Kd.V_mono HO_0.out (fun _ hk=>⟨hk.1.1,⟨hk.2,hk.1.2⟩⟩)⟩,⟨by (with_reducible repeat (first | apply Kd.N_alloc | apply Kd.N_drewN | apply Kd.N_drew));exact HO218.out⟩,⟨by (with_reducible repeat (first | apply Kd.V_alloc | apply Kd.V_drewN | apply Kd.V_drew));exact Kd.V_mono HO_202003.out (fun _ hk=>⟨hk.1.1,⟨hk.2,hk.1.2⟩⟩)⟩,⟨by (with_reducible repeat (first | refine kN ?_ _ | refine kD ?_ | refine kA ?_ _));exact BK201.out⟩,⟨by repeat (first | (with_reducible first | exact HB.out | apply bA | apply bN | apply bD | refine bT ?_ GE201.out) | exact HB.out)⟩⟩
           ·rw [if_neg c27] at H
            exact absurd H (by simp)
          ·rw [if_neg c26] at H
           exact absurd H (by simp)
         ·rw [if_neg c25] at H
          exact absurd H (by simp)
    ·rw [if_neg c8] at H
     exact absurd H (by simp)
   ·rw [if_neg c7] at H
    have c7b0 : decide (x8_1 < (l0.length : Int)) = false:=decide_eq_false c7
    clear c7
    by_cases c29 : x7_1 = true
    ·subst c29
     have H1 : (some x6_1) = some r:=by rw [if_pos rfl] at H;exact H
     clear H
     have H:=H1
     clear H1
     obtain rfl:=Option.some.inj H
     go_wp2
     go_ret
     exact ⟨_,by first | rfl | (simp [eN,eS] <;> rfl) | (simp [*,eN,eS] <;> rfl),by (with_reducible repeat (first | apply Kd.N_alloc | apply Kd.N_drewN | apply Kd.N_drew));exact Kd.N_mono HO_6.out (fun _ hk=>hk.1),by repeat (first | (with_reducible first | exact HB.out | apply bA | apply bN | apply bD | refine bT ?_ GE201.out) | exact HB.out)⟩
    ·replace c29:=Bool.eq_false_iff.mpr c29
     subst c29
     have H1 : (if x6_1.length < 1466015503701 then (some (x6_1 ++ [(⟨a1_0,a1_1,a1_2,l1_3,a1_4,a1_5⟩ : S34)])) else (none)) = some r:=by rw [if_neg (show ¬ (false = true) by decide)] at H;exact H
     clear H
     have H:=H1
     clear H1
     by_cases c30 : x6_1.length < 1466015503701
     ·rw [if_pos c30] at H
      have LMc30:=As.mk c30
      clear c30
      obtain ⟨y203,hy203⟩ : ∃ y_ : List (S34),y_ = (x6_1 ++ [(⟨a1_0,a1_1,a1_2,l1_3,a1_4,a1_5⟩ : S34)]):=⟨_,rfl⟩
      replace H : (some y203) = some r:=by first | (rw [hy203];with_reducible exact H) | (have H2_:=(Option.bind_some _ _).symm.trans H;rw [hy203];with_reducible exact H2_) | (have H2_:=(Option.bind_some _ _).symm.trans H;with_reducible exact H2_) | with_reducible exact H | (rw [hy203];exact H) | exact H
      have Ny203:=As.mk hy203
      clear hy203
      obtain rfl:=Option.some.inj H
      have hcz31_0 : wr.cell? ⟨gb201,0,none⟩ = some (.int .i64 a1_0):=(bC BK201.out 0).trans rfl
      have hcz31_1 : wr.cell? ⟨gb201,1,none⟩ = some (.string a1_1):=(bC BK201.out 1).trans rfl
      have hcz31_2 : wr.cell? ⟨gb201,2,none⟩ = some (.string a1_2):=(bC BK201.out 2).trans rfl
      have hcz31_3 : wr.cell? ⟨gb201,3,none⟩ = some (.slice A1_3 l1_3.length c1_3):=(bC BK201.out 3).trans rfl
      have hcz31_4 : wr.cell? ⟨gb201,4,none⟩ = some (.string a1_4):=(bC BK201.out 4).trans rfl
      have hcz31_5 : wr.cell? ⟨gb201,5,none⟩ = some (.string a1_5):=(bC BK201.out 5).trans rfl
      have hfz31_0:=bF BK201.out 0
      have hfz31_1:=bF BK201.out 1
      have hfz31_2:=bF BK201.out 2
      have hfz31_3:=bF BK201.out 3
      have hfz31_4:=bF BK201.out 4
      have hfz31_5:=bF BK201.out 5
      go_wp2_with (first | ((with_reducible refine gB (b:=.append) (xs:=#[.tmp 46,.tmp 48]) rfl ?_);at_builtin;refine Kd.N_append k34 (w0:=w) w.heap.size rfl (.tmp 46) (.tmp 48) 22 34 (.agg #[(.int .i64 0),(.string ⟨#[]⟩),(.string ⟨#[]⟩),(.slice none 0 0),(.string ⟨#[]⟩),(.string ⟨#[]⟩)]) 96 rfl Tryz.underlying22 info34 rfl (by decide) (by omega) u6 x6_1 (⟨a1_0,a1_1,a1_2,l1_3,a1_4,a1_5⟩ : S34) [.int .i64 a1_0,.string a1_1,.string a1_2,.slice A1_3 l1_3.length c1_3,.string a1_4,.string a1_5] (fun k_=>((P0_ k_ ∨ P1_3_ k_) ∨ w.heap.size ≤ k_) ∧ k_ ≠ gb201) (fun k_=>((fun k_=>((P0_ k_ ∨ P1_3_ k_) ∨ w.heap.size ≤ k_) ∧ k_ ≠ gb201)) k_ ∧ some k_ ≠ (u6 : Value).ownBlock) rfl rfl ?aP (fun _ hk=>hk) ?aF ?aO ?aB ?aS ?aL ?_;(case aP=>exact (k34_mkF _ _ (⟨a1_0,a1_1,a1_2,l1_3,a1_4,a1_5⟩ : S34) (Kd.V_reads' (Kd.V_mono (ok':=(fun k_=>((fun k_=>((P0_ k_ ∨ P1_3_ k_) ∨ w.heap.size ≤ k_) ∧ k_ ≠ gb201)) k_ ∧ some k_ ≠ (u6 : Value).ownBlock)) (HO_202003.out) (fun k_ hk=>⟨⟨hk.1,hk.2.2⟩,hk.2.1⟩))).2.1 (Kd.V_F (Kd.V_mono (ok':=(fun k_=>((fun k_=>((P0_ k_ ∨ P1_3_ k_) ∨ w.heap.size ≤ k_) ∧ k_ ≠ gb201)) k_ ∧ some k_ ≠ (u6 : Value).ownBlock)) (HO_202003.out) (fun k_ hk=>⟨⟨hk.1,hk.2.2⟩,hk.2.1⟩)))));(case aB=>exact (by repeat (first | (with_reducible first | exact HB.out | apply bA | apply bN | apply bD | refine bT ?_ GE201.out) | exact HB.out)));(case aF=>exact (fun k_ hk=>⟨(.inr (Nat.le_trans (bZ (by repeat (first | (with_reducible first | exact HB.out | apply bA | apply bN | apply bD | refine bT ?_ GE201.out) | exact HB.out))) hk)),Kd.freshB (g:=gb201) (o:=.cells #[.int .i64 a1_0,.string a1_1,.string a1_2,.slice A1_3 l1_3.length c1_3,.string a1_4,.string a1_5] 34 (0,0)) (by (with_reducible repeat (first | refine kN ?_ _ | refine kD ?_ | refine kA ?_ _));exact BK201.out) k_ hk⟩));(case aO=>exact (by (with_reducible repeat (first | apply Kd.N_alloc | apply Kd.N_drewN | apply Kd.N_drew));exact HO_6.out));(case aS=>exact (bZ (by repeat (first | (with_reducible first | exact HB.out | apply bA | apply bN | apply bD | refine bT ?_ GE201.out) | exact HB.out))));(case aL=>have:=LMc30.out;omega);intro v204 w32 ho hb hg hat;rw [← Ny203.out] at ho;have n0_:=As.mk (Kd.V_afterv (ok:=(fun k_=>((P0_ k_ ∨ P1_3_ k_) ∨ w.heap.size ≤ k_) ∧ k_ ≠ gb201)) (by (with_reducible repeat (first | apply Kd.V_alloc | apply Kd.V_drewN | apply Kd.V_drew));exact Kd.V_mono HO_0.out (fun _ hk=>⟨⟨hk.1,hk.2.2⟩,hk.2.1⟩)) hg hat);have n1_:=As.mk (Kd.V_afterv (ok:=(fun k_=>((P0_ k_ ∨ P1_3_ k_) ∨ w.heap.size ≤ k_) ∧ k_ ≠ gb201)) (by (with_reducible repeat (first | apply Kd.V_alloc | apply Kd.V_drewN | apply Kd.V_drew));exact Kd.V_mono HO_202003.out (fun _ hk=>⟨⟨hk.1,hk.2.2⟩,hk.2.1⟩)) hg hat);have n2_:=As.mk (blk_grown (g:=gb201) (o:=.cells #[.int .i64 a1_0,.string a1_1,.string a1_2,.slice A1_3 l1_3.length c1_3,.string a1_4,.string a1_5] 34 (0,0)) (by (with_reducible repeat (first | refine kN ?_ _ | refine kD ?_ | refine kA ?_ _));exact BK201.out) hg (Kd.N_away HO_6.out (fun _ hk=>hk.2)));have n3_:=As.mk (hb);have n4_:=As.mk (ho);clear HO_0;clear HO_202003;clear BK201;clear HB;clear HO_6;have HO_0:=n0_;have HO_202003:=n1_;have BK201:=n2_;have HB:=n3_;have HO205:=n4_;clear n0_ n1_ n2_ n3_ n4_;clear ho hb hg hat))
      go_ret
      exact ⟨_,by first | rfl | (simp [eN,eS] <;> rfl) | (simp [*,eN,eS] <;> rfl),by (with_reducible repeat (first | apply Kd.N_alloc | apply Kd.N_drewN | apply Kd.N_drew));exact Kd.N_mono HO205.out (fun _ hk=>hk.1),by repeat (first | (with_reducible first | exact HB.out | apply bA | apply bN | apply bD | refine bT ?_ GE201.out) | exact HB.out)⟩
     ·rw [if_neg c30] at H
      exact absurd H (by simp)
/-! ### r08_Find: function 33 -/
def r08_Find.l0 : Nat → List (S34) → ByteArray → Int → Option (Int)
 | 0,_,_,_=>none
 | k + 1,x0,x1,x5=>if x5 < (x0.length : Int) then (if 0 ≤ x5 then ((r07_Key.f k ((rd_T34 x0 x5).f0) ((rd_T34 x0 x5).f1) ((rd_T34 x0 x5).f2) ((rd_T34 x0 x5).f3) ((rd_T34 x0 x5).f4) ((rd_T34 x0 x5).f5)).bind fun t220=>(if t220.toList = x1.toList then (some x5) else (r08_Find.l0 k x0 x1 (wrap64 (x5 + 1))))) else (none)) else (some (-1))
def r08_Find.f (k : Nat) (l0 : List (S34)) (a1 : ByteArray) : Option (Int):=r08_Find.l0 k l0 a1 0
theorem r08_Find.mono_l : ∀ k,(∀ y0 y1 y2,LeO (r08_Find.l0 k y0 y1 y2) (r08_Find.l0 (k + 1) y0 y1 y2))
 | 0=>fun _ _ _ r h=>by simp [r08_Find.l0] at h
 | k + 1=>by
  have ih0:=r08_Find.mono_l k
  ·intro y0 y1 y2
   unfold r08_Find.l0
   repeat' first
   | (with_reducible exact ih0 _ _ _)
   | (with_reducible exact r07_Key.mono _ _ _ _ _ _ _)
   | (with_reducible exact LeO.refl _)
   | (with_reducible exact LeO.none _)
   | (with_reducible refine LeO.ite ?_ ?_)
   | (with_reducible refine LeO.bind ?_ (fun _=>?_))
   | exact ih0 _ _ _
   | exact r07_Key.mono _ _ _ _ _ _ _
   | exact LeO.none _
   | refine LeO.ite ?_ ?_
   | refine LeO.bind ?_ (fun _=>?_)
theorem r08_Find.mono : ∀ a0 a1 k,LeO (r08_Find.f k a0 a1) (r08_Find.f (k + 1) a0 a1):=by
 intro a0 a1 k
 have ih0:=r08_Find.mono_l k
 unfold r08_Find.f
 repeat' first
   | (with_reducible exact ih0 _ _ _)
   | (with_reducible exact r07_Key.mono _ _ _ _ _ _ _)
   | (with_reducible exact LeO.refl _)
   | (with_reducible exact LeO.none _)
   | (with_reducible refine LeO.ite ?_ ?_)
   | (with_reducible refine LeO.bind ?_ (fun _=>?_))
   | exact ih0 _ _ _
   | exact r07_Key.mono _ _ _ _ _ _ _
   | exact LeO.none _
   | refine LeO.ite ?_ ?_
   | refine LeO.bind ?_ (fun _=>?_)
theorem r08_Find.calls (k : Nat) (A0 : Option Addr) (c0 : Nat) (l0 : List (S34)) (a1 : ByteArray) (r : Int) (w : World) (hr0 : Kd.C k34 w A0 l0.length l0) (hc0 : l0.length ≤ c0) (h : r08_Find.f k l0 a1 = some r) :
  Calls Tryz.prog 33 #[.slice A0 l0.length c0,.string a1] w fun e w'=>e = .returned (.int .i64 r) ∧ Below w.heap.size w w':=by
 have hu34:=Tryz.underlying34
 have HR0:=As.mk hr0
 have HC0:=As.mk hc0
 clear hr0 hc0
 have HB:=As.mk (Below.refl w.heap.size w)
 have H : (r08_Find.l0 k l0 a1 0) = some r:=h
 clear h
 have H':=As.mk H
 clear H
 go_enter Tryz.func33,Tryz.ntmps33
 go_wp2
 go_loopg [5] k (fun kq v5 w'=>∃ (x5_1 : Int),v5 = .int .i64 x5_1 ∧ As (r08_Find.l0 kq l0 a1 x5_1 = some r) ∧ As (kq ≤ k) ∧ As (Below w.heap.size w w'))
 case atStart=>exact ⟨(0),(by first | rfl | (simp;done) | (simp [*];done)),H',⟨Nat.le_refl _⟩,⟨by repeat (first | (with_reducible first | exact HB.out | apply bA | apply bN | apply bD) | exact HB.out)⟩⟩
 case round =>
  clear H'
  try clear p2
  obtain ⟨x5_1,rfl,HA,HK1,HB⟩:=hrel
  cases gk with
  | zero=>exact absurd HA.out (by simp [r08_Find.l0])
  | succ k1 =>
   have H:=HA.out
   clear HA
   simp only [r08_Find.l0] at H
   by_cases c3 : x5_1 < (l0.length : Int)
   ·rw [if_pos c3] at H
    have c3b0 : decide (x5_1 < (l0.length : Int)) = true:=decide_eq_true c3
    clear c3
    by_cases c4 : 0 ≤ x5_1
    ·rw [if_pos c4] at H
     have c4b0 : decide (0 ≤ x5_1) = true:=decide_eq_true c4
     clear c4
     replace H:=Option.bind_eq_some_iff.mp H
     obtain ⟨t220,A50,H⟩:=H
     replace H : (if t220.toList = a1.toList then (some x5_1) else (r08_Find.l0 k1 l0 a1 (wrap64 (x5_1 + 1)))) = some r:=H
     have A5:=As.mk A50
     clear A50
     by_cases c6 : t220.toList = a1.toList
     ·rw [if_pos c6] at H
      have c6b0 : (t220.toList == a1.toList) = true:=beq_iff_eq.mpr c6
      have c6b1 : (t220.toList != a1.toList) = false:=bne_eq_false_iff_eq.mpr c6
      clear c6
      obtain rfl:=Option.some.inj H
      have p219 : 0 ≤ (x5_1 : Int):=of_decide_eq_true (by first | (with_reducible assumption) | assumption)
      have q219 : x5_1 < (l0.length : Int):=of_decide_eq_true (by first | (with_reducible assumption) | assumption)
      obtain ⟨ad219,A219_3,c219_3,e219,hx219_0,hx219_1,hx219_2,hx219_3,hx219_4,hx219_5,hl219_3,hi219_3⟩:=at_T34 HR0.out x5_1 p219 q219
      cases e219
      replace hx219_0:=(HB.out.cell (World.block_lt_of_cell? w _ hx219_0)).trans hx219_0
      replace hx219_1:=(HB.out.cell (World.block_lt_of_cell? w _ hx219_1)).trans hx219_1
      replace hx219_2:=(HB.out.cell (World.block_lt_of_cell? w _ hx219_2)).trans hx219_2
      replace hx219_3:=(HB.out.cell (World.block_lt_of_cell? w _ hx219_3)).trans hx219_3
      replace hx219_4:=(HB.out.cell (World.block_lt_of_cell? w _ hx219_4)).trans hx219_4
      replace hx219_5:=(HB.out.cell (World.block_lt_of_cell? w _ hx219_5)).trans hx219_5
      have HR219_3:=As.mk hi219_3
      have HC219_3:=As.mk hl219_3
      clear hi219_3 hl219_3
      replace p219:=eq_true p219
      replace q219:=eq_true q219
      go_wp2_with (first | ((with_reducible refine gC (f:=62) rfl ?_);refine goesL_ (some 16) rfl rfl Tryz.func62 (by kernel_rfl) rfl #[.agg #[.int .i64 ((rd_T34 l0 x5_1).f0),.string ((rd_T34 l0 x5_1).f1),.string ((rd_T34 l0 x5_1).f2),.slice A219_3 ((rd_T34 l0 x5_1).f3).length c219_3,.string ((rd_T34 l0 x5_1).f4),.string ((rd_T34 l0 x5_1).f5)]] rfl (by (try simp only [List.map_toArray,List.map_cons,List.map_nil]);first | done | rfl | (simp only [List.length_drop,List.length_take];rfl)) ?_;(with_reducible refine (r07_Key.calls k1 ((rd_T34 l0 x5_1).f0) ((rd_T34 l0 x5_1).f1) ((rd_T34 l0 x5_1).f2) _ _ ((rd_T34 l0 x5_1).f3) ((rd_T34 l0 x5_1).f4) ((rd_T34 l0 x5_1).f5) t220 _ ?side1 ?side2 A5.out).mono ?_);(case side1=>repeat (first | exact (Kd.C_below HR219_3.out HB.out) | (with_reducible refine Kd.C_alloc ?_ _) | (with_reducible refine Kd.C_drewN ?_ _) | (with_reducible refine Kd.C_drew ?_)));(case side2=>exact HC219_3.out);rintro e w7 ⟨rfl,hb⟩;refine ⟨_,rfl,?_⟩;have n0_:=As.mk (bS (by repeat (first | (with_reducible first | exact HB.out | apply bA | apply bN | apply bD) | exact HB.out)) hb);clear HB;have HB:=n0_;clear n0_;(try clear hb);(try clear hb2);(try clear hk);(try clear hi)))
      go_ret
      exact ⟨by first | rfl | (simp [eN,eS] <;> rfl) | (simp [*,eN,eS] <;> rfl),by repeat (first | (with_reducible first | exact HB.out | apply bA | apply bN | apply bD) | exact HB.out)⟩
     ·rw [if_neg c6] at H
      have c6b0 : (t220.toList == a1.toList) = false:=beq_eq_false_iff_ne.mpr c6
      have c6b1 : (t220.toList != a1.toList) = true:=bne_iff_ne.mpr c6
      have H':=As.mk H
      clear H
      have p219 : 0 ≤ (x5_1 : Int):=of_decide_eq_true (by first | (with_reducible assumption) | assumption)
      have q219 : x5_1 < (l0.length : Int):=of_decide_eq_true (by first | (with_reducible assumption) | assumption)
      obtain ⟨ad219,A219_3,c219_3,e219,hx219_0,hx219_1,hx219_2,hx219_3,hx219_4,hx219_5,hl219_3,hi219_3⟩:=at_T34 HR0.out x5_1 p219 q219
      cases e219
      replace hx219_0:=(HB.out.cell (World.block_lt_of_cell? w _ hx219_0)).trans hx219_0
      replace hx219_1:=(HB.out.cell (World.block_lt_of_cell? w _ hx219_1)).trans hx219_1
      replace hx219_2:=(HB.out.cell (World.block_lt_of_cell? w _ hx219_2)).trans hx219_2
      replace hx219_3:=(HB.out.cell (World.block_lt_of_cell? w _ hx219_3)).trans hx219_3
      replace hx219_4:=(HB.out.cell (World.block_lt_of_cell? w _ hx219_4)).trans hx219_4
      replace hx219_5:=(HB.out.cell (World.block_lt_of_cell? w _ hx219_5)).trans hx219_5
      have HR219_3:=As.mk hi219_3
      have HC219_3:=As.mk hl219_3
      clear hi219_3 hl219_3
      replace p219:=eq_true p219
      replace q219:=eq_true q219
      go_wp2_with (first | ((with_reducible refine gC (f:=62) rfl ?_);refine goesL_ (some 16) rfl rfl Tryz.func62 (by kernel_rfl) rfl #[.agg #[.int .i64 ((rd_T34 l0 x5_1).f0),.string ((rd_T34 l0 x5_1).f1),.string ((rd_T34 l0 x5_1).f2),.slice A219_3 ((rd_T34 l0 x5_1).f3).length c219_3,.string ((rd_T34 l0 x5_1).f4),.string ((rd_T34 l0 x5_1).f5)]] rfl (by (try simp only [List.map_toArray,List.map_cons,List.map_nil]);first | done | rfl | (simp only [List.length_drop,List.length_take];rfl)) ?_;(with_reducible refine (r07_Key.calls k1 ((rd_T34 l0 x5_1).f0) ((rd_T34 l0 x5_1).f1) ((rd_T34 l0 x5_1).f2) _ _ ((rd_T34 l0 x5_1).f3) ((rd_T34 l0 x5_1).f4) ((rd_T34 l0 x5_1).f5) t220 _ ?side1 ?side2 A5.out).mono ?_);(case side1=>repeat (first | exact (Kd.C_below HR219_3.out HB.out) | (with_reducible refine Kd.C_alloc ?_ _) | (with_reducible refine Kd.C_drewN ?_ _) | (with_reducible refine Kd.C_drew ?_)));(case side2=>exact HC219_3.out);rintro e w8 ⟨rfl,hb⟩;refine ⟨_,rfl,?_⟩;have n0_:=As.mk (bS (by repeat (first | (with_reducible first | exact HB.out | apply bA | apply bN | apply bD) | exact HB.out)) hb);clear HB;have HB:=n0_;clear n0_;(try clear hb);(try clear hb2);(try clear hk);(try clear hi)))
      go_roundg k1
      case measure=>have:=HK1.out;omega
      case rel=>exact ⟨(wrap64 (x5_1 + 1)),(by first | rfl | (simp;done) | (simp [*];done)),H',⟨by have:=HK1.out;omega⟩,⟨by repeat (first | (with_reducible first | exact HB.out | apply bA | apply bN | apply bD) | exact HB.out)⟩⟩
    ·rw [if_neg c4] at H
     exact absurd H (by simp)
   ·rw [if_neg c3] at H
    have c3b0 : decide (x5_1 < (l0.length : Int)) = false:=decide_eq_false c3
    clear c3
    obtain rfl:=Option.some.inj H
    go_wp2
    go_ret
    exact ⟨by first | rfl | (simp [eN,eS] <;> rfl) | (simp [*,eN,eS] <;> rfl),by repeat (first | (with_reducible first | exact HB.out | apply bA | apply bN | apply bD) | exact HB.out)⟩
/-! ### r08_New: function 18 -/
def r08_New.l0 : Nat → List (S34) → List (S34) → Int → Option ((List (S34)) × Int)
 | 0,_,_,_=>none
 | k + 1,x0,x4,x5=>if x5 < (x0.length : Int) then (if 0 ≤ x5 then ((r07_Key.f k ((rd_T34 x0 x5).f0) ((rd_T34 x0 x5).f1) ((rd_T34 x0 x5).f2) ((rd_T34 x0 x5).f3) ((rd_T34 x0 x5).f4) ((rd_T34 x0 x5).f5)).bind fun t222=>(if t222.toList = ([] : List UInt8) then (some (([] : List (S34)),31)) else ((r08_Find.f k x4 t222).bind fun t223=>(if t223 ≥ 0 then (some (([] : List (S34)),45)) else (if (x4.length : Int) = 500 then (some (([] : List (S34)),21)) else ((r08_Put.f k x4 ((rd_T34 x0 x5).f0) ((rd_T34 x0 x5).f1) ((rd_T34 x0 x5).f2) ((rd_T34 x0 x5).f3) ((rd_T34 x0 x5).f4) ((rd_T34 x0 x5).f5)).bind fun t225=>(r08_New.l0 k x0 t225 (wrap64 (x5 + 1))))))))) else (none)) else (some (x4,0))
def r08_New.f (k : Nat) (l0 : List (S34)) : Option ((List (S34)) × Int):=r08_New.l0 k l0 ([] : List (S34)) 0
theorem r08_New.mono_l : ∀ k,(∀ y0 y1 y2,LeO (r08_New.l0 k y0 y1 y2) (r08_New.l0 (k + 1) y0 y1 y2))
 | 0=>fun _ _ _ r h=>by simp [r08_New.l0] at h
 | k + 1=>by
  have ih0:=r08_New.mono_l k
  ·intro y0 y1 y2
   unfold r08_New.l0
   repeat' first
   | (with_reducible exact ih0 _ _ _)
   | (with_reducible exact r07_Key.mono _ _ _ _ _ _ _)
   | (with_reducible exact r08_Find.mono _ _ _)
   | (with_reducible exact r08_Put.mono _ _ _ _ _ _ _ _)
   | (with_reducible exact LeO.refl _)
   | (with_reducible exact LeO.none _)
   | (with_reducible refine LeO.ite ?_ ?_)
   | (with_reducible refine LeO.bind ?_ (fun _=>?_))
   | exact ih0 _ _ _
   | exact r07_Key.mono _ _ _ _ _ _ _
   | exact r08_Find.mono _ _ _
   | exact r08_Put.mono _ _ _ _ _ _ _ _
   | exact LeO.none _
   | refine LeO.ite ?_ ?_
   | refine LeO.bind ?_ (fun _=>?_)
theorem r08_New.mono : ∀ a0 k,LeO (r08_New.f k a0) (r08_New.f (k + 1) a0):=by
 intro a0 k
 have ih0:=r08_New.mono_l k
 unfold r08_New.f
 repeat' first
   | (with_reducible exact ih0 _ _ _)
   | (with_reducible exact r07_Key.mono _ _ _ _ _ _ _)
   | (with_reducible exact r08_Find.mono _ _ _)
   | (with_reducible exact r08_Put.mono _ _ _ _ _ _ _ _)
   | (with_reducible exact LeO.refl _)
   | (with_reducible exact LeO.none _)
   | (with_reducible refine LeO.ite ?_ ?_)
   | (with_reducible refine LeO.bind ?_ (fun _=>?_))
   | exact ih0 _ _ _
   | exact r07_Key.mono _ _ _ _ _ _ _
   | exact r08_Find.mono _ _ _
   | exact r08_Put.mono _ _ _ _ _ _ _ _
   | exact LeO.none _
   | refine LeO.ite ?_ ?_
   | refine LeO.bind ?_ (fun _=>?_)
theorem r08_New.calls (k : Nat) (P0_ : Nat → Prop) (A0 : Option Addr) (c0 : Nat) (l0 : List (S34)) (r1 : List (S34)) (r2 : Int) (w : World) (hs0 : Kd.V k34 34 w w.heap.size (fun k_=>P0_ k_) (.slice A0 l0.length c0) l0) (h : r08_New.f k l0 = some (r1,r2)) :
  Calls Tryz.prog 18 #[.slice A0 l0.length c0] w fun e w'=>∃ v0_ : Value,e = .returned (.tuple #[v0_,.int .i64 r2]) ∧ Kd.N k34 34 w' w.heap.size (fun k_=>(P0_ k_ ∨ w.heap.size ≤ k_)) v0_ r1 ∧ Below w.heap.size w w':=by
 have hu34:=Tryz.underlying34
 have HO0:=As.mk (show Kd.V k34 34 w w.heap.size (fun k_=>(P0_ k_ ∨ w.heap.size ≤ k_)) (.slice A0 l0.length c0) l0 from Kd.V_mono hs0 (fun k_ hk=>.inl hk))
 have HB:=As.mk (Below.refl w.heap.size w)
 have H : (r08_New.l0 k l0 ([] : List (S34)) 0) = some (r1,r2):=h
 clear h
 have H':=As.mk H
 clear H
 go_enter Tryz.func18,Tryz.ntmps18
 go_wp2
 go_loopg [4,5] k (fun kq v4 v5 w'=>∃ (x4_1 : List (S34)) (x5_1 : Int),v5 = .int .i64 x5_1 ∧ As (r08_New.l0 kq l0 x4_1 x5_1 = some (r1,r2)) ∧ As (kq ≤ k) ∧ As (Kd.V k34 34 w' w.heap.size (fun k_=>(P0_ k_ ∨ w.heap.size ≤ k_) ∧ some k_ ≠ (v4 : Value).ownBlock) (.slice A0 l0.length c0) l0) ∧ As (Kd.N k34 34 w' w.heap.size (fun k_=>(P0_ k_ ∨ w.heap.size ≤ k_)) v4 x4_1) ∧ As (Below w.heap.size w w'))
 case atStart=>exact ⟨(([] : List (S34))),(0),(by first | rfl | (simp;done) | (simp [*];done)),H',⟨Nat.le_refl _⟩,⟨by (with_reducible repeat (first | apply Kd.V_alloc | apply Kd.V_drewN | apply Kd.V_drew));exact Kd.V_mono HO0.out (fun _ hk=>⟨hk,(by simp [Value.ownBlock])⟩)⟩,⟨by first | exact Kd.S_nil _ _ _ _ _ | exact Kd.N_nil _ _ _ _ _ | exact Kd.V_nil _ _ _ _ _ | exact Kd.Q_nil _ _ _ _ _ | exact Kd.R_nil _ _ _ _ _⟩,⟨by repeat (first | (with_reducible first | exact HB.out | apply bA | apply bN | apply bD) | exact HB.out)⟩⟩
 case round =>
  clear H'
  try clear c1
  obtain ⟨x4_1,x5_1,rfl,HA,HK1,HO_0,HO_4,HB⟩:=hrel
  cases gk with
  | zero=>exact absurd HA.out (by simp [r08_New.l0])
  | succ k1 =>
   have H:=HA.out
   clear HA
   simp only [r08_New.l0] at H
   by_cases c2 : x5_1 < (l0.length : Int)
   ·rw [if_pos c2] at H
    have c2b0 : decide (x5_1 < (l0.length : Int)) = true:=decide_eq_true c2
    clear c2
    by_cases c3 : 0 ≤ x5_1
    ·rw [if_pos c3] at H
     have c3b0 : decide (0 ≤ x5_1) = true:=decide_eq_true c3
     clear c3
     replace H:=Option.bind_eq_some_iff.mp H
     obtain ⟨t222,A40,H⟩:=H
     replace H : (if t222.toList = ([] : List UInt8) then (some (([] : List (S34)),31)) else ((r08_Find.f k1 x4_1 t222).bind fun t223=>(if t223 ≥ 0 then (some (([] : List (S34)),45)) else (if (x4_1.length : Int) = 500 then (some (([] : List (S34)),21)) else ((r08_Put.f k1 x4_1 ((rd_T34 l0 x5_1).f0) ((rd_T34 l0 x5_1).f1) ((rd_T34 l0 x5_1).f2) ((rd_T34 l0 x5_1).f3) ((rd_T34 l0 x5_1).f4) ((rd_T34 l0 x5_1).f5)).bind fun t225=>(r08_New.l0 k1 l0 t225 (wrap64 (x5_1 + 1)))))))) = some (r1,r2):=H
     have A4:=As.mk A40
     clear A40
     by_cases c5 : t222.toList = ([] : List UInt8)
     ·rw [if_pos c5] at H
      have c5b0 : (t222.toList == ([] : List UInt8)) = true:=beq_iff_eq.mpr c5
      have c5b1 : (t222.toList != ([] : List UInt8)) = false:=bne_eq_false_iff_eq.mpr c5
      clear c5
      simp only [Option.some.injEq,Prod.mk.injEq] at H
      obtain ⟨rfl,rfl⟩:=H
      have p221 : 0 ≤ (x5_1 : Int):=of_decide_eq_true (by first | (with_reducible assumption) | assumption)
      have q221 : x5_1 < (l0.length : Int):=of_decide_eq_true (by first | (with_reducible assumption) | assumption)
      obtain ⟨ad221,A221_3,c221_3,e221,hx221_0,hx221_1,hx221_2,hx221_3,hx221_4,hx221_5,hl221_3,hi221_3⟩:=at_T34 (Kd.V_reads' HO_0.out).2.2 x5_1 p221 q221
      cases e221
      obtain ⟨ce221,hce221,hMe221,hcc221⟩:=Kd.V_get HO_0.out z34 x5_1 p221 (by first | exact q221 | exact of_decide_eq_true (by first | (with_reducible assumption) | assumption) | (have e_:=(Kd.V_reads' HO_0.out).1;omega))
      obtain ⟨ua221_3,uc221_3,rfl,ul221_3,ge221_3⟩:=k34_openF hMe221
      have hv221_3:=hcc221 3 _ rfl
      rw [add_field _ _ 3 (by omega)] at hv221_3
      replace hv221_3:=Option.some.inj (hv221_3.symm.trans hx221_3)
      injection hv221_3 with hva_ hvn_ hvc_
      rw [hva_] at ge221_3
      rw [hvc_] at ul221_3
      have HL221_3:=As.mk (show Kd.V Kd.string 9 _ w.heap.size _ _ ((rd_T34 l0 x5_1).f3) from Kd.V_mk ul221_3 ge221_3)
      clear hva_ hvn_ hvc_ ge221_3 ul221_3
      clear hcc221 hce221
      have HR221_3:=As.mk hi221_3
      have HC221_3:=As.mk hl221_3
      clear hi221_3 hl221_3
      replace p221:=eq_true p221
      replace q221:=eq_true q221
      go_wp2_with (first | ((with_reducible refine gC (f:=62) rfl ?_);refine goesL_ (some 17) rfl rfl Tryz.func62 (by kernel_rfl) rfl #[.agg #[.int .i64 ((rd_T34 l0 x5_1).f0),.string ((rd_T34 l0 x5_1).f1),.string ((rd_T34 l0 x5_1).f2),.slice A221_3 ((rd_T34 l0 x5_1).f3).length c221_3,.string ((rd_T34 l0 x5_1).f4),.string ((rd_T34 l0 x5_1).f5)]] rfl (by (try simp only [List.map_toArray,List.map_cons,List.map_nil]);first | done | rfl | (simp only [List.length_drop,List.length_take];rfl)) ?_;(with_reducible refine (r07_Key.calls k1 ((rd_T34 l0 x5_1).f0) ((rd_T34 l0 x5_1).f1) ((rd_T34 l0 x5_1).f2) _ _ ((rd_T34 l0 x5_1).f3) ((rd_T34 l0 x5_1).f4) ((rd_T34 l0 x5_1).f5) t222 _ ?side1 ?side2 A4.out).mono ?_);(case side1=>repeat (first | exact (by repeat (first | (with_reducible exact HR221_3.out) | (with_reducible refine Kd.C_alloc ?_ _) | (with_reducible refine Kd.C_drewN ?_ _) | (with_reducible refine Kd.C_drew ?_) | exact HR221_3.out)) | (with_reducible refine Kd.C_alloc ?_ _) | (with_reducible refine Kd.C_drewN ?_ _) | (with_reducible refine Kd.C_drew ?_)));(case side2=>exact HC221_3.out);rintro e w6 ⟨rfl,hb⟩;refine ⟨_,rfl,?_⟩;have n0_:=As.mk (Kd.V_below (by (with_reducible repeat (first | apply Kd.V_alloc | apply Kd.V_drewN | apply Kd.V_drew));exact HO_0.out) hb);have n1_:=As.mk (Kd.N_below (by (with_reducible repeat (first | apply Kd.N_alloc | apply Kd.N_drewN | apply Kd.N_drew));exact HO_4.out) hb);have n2_:=As.mk (Kd.V_below (by (with_reducible repeat (first | apply Kd.V_alloc | apply Kd.V_drewN | apply Kd.V_drew));exact HL221_3.out) hb);have n3_:=As.mk (Kd.C_below (by repeat (first | (with_reducible exact HR221_3.out) | (with_reducible refine Kd.C_alloc ?_ _) | (with_reducible refine Kd.C_drewN ?_ _) | (with_reducible refine Kd.C_drew ?_) | exact HR221_3.out)) hb);have n4_:=As.mk (bS (by repeat (first | (with_reducible first | exact HB.out | apply bA | apply bN | apply bD) | exact HB.out)) hb);clear HO_0;clear HO_4;clear HL221_3;clear HR221_3;clear HB;have HO_0:=n0_;have HO_4:=n1_;have HL221_3:=n2_;have HR221_3:=n3_;have HB:=n4_;clear n0_ n1_ n2_ n3_ n4_;(try clear hb);(try clear hb2);(try clear hk);(try clear hi)))
      go_ret2
      exact ⟨_,by first | rfl | (simp [eN,eS] <;> rfl) | (simp [*,eN,eS] <;> rfl),by first | exact Kd.S_nil _ _ _ _ _ | exact Kd.N_nil _ _ _ _ _ | exact Kd.V_nil _ _ _ _ _ | exact Kd.Q_nil _ _ _ _ _ | exact Kd.R_nil _ _ _ _ _,by repeat (first | (with_reducible first | exact HB.out | apply bA | apply bN | apply bD) | exact HB.out)⟩
     ·rw [if_neg c5] at H
      have c5b0 : (t222.toList == ([] : List UInt8)) = false:=beq_eq_false_iff_ne.mpr c5
      have c5b1 : (t222.toList != ([] : List UInt8)) = true:=bne_iff_ne.mpr c5
      replace H:=Option.bind_eq_some_iff.mp H
      obtain ⟨t223,A70,H⟩:=H
      replace H : (if t223 ≥ 0 then (some (([] : List (S34)),45)) else (if (x4_1.length : Int) = 500 then (some (([] : List (S34)),21)) else ((r08_Put.f k1 x4_1 ((rd_T34 l0 x5_1).f0) ((rd_T34 l0 x5_1).f1) ((rd_T34 l0 x5_1).f2) ((rd_T34 l0 x5_1).f3) ((rd_T34 l0 x5_1).f4) ((rd_T34 l0 x5_1).f5)).bind fun t225=>(r08_New.l0 k1 l0 t225 (wrap64 (x5_1 + 1)))))) = some (r1,r2):=H
      have A7:=As.mk A70
      clear A70
      by_cases c8 : t223 ≥ 0
      ·rw [if_pos c8] at H
       have c8b0 : decide (0 ≤ t223) = true:=decide_eq_true c8
       clear c8
       simp only [Option.some.injEq,Prod.mk.injEq] at H
       obtain ⟨rfl,rfl⟩:=H
       have p221 : 0 ≤ (x5_1 : Int):=of_decide_eq_true (by first | (with_reducible assumption) | assumption)
       have q221 : x5_1 < (l0.length : Int):=of_decide_eq_true (by first | (with_reducible assumption) | assumption)
       obtain ⟨ad221,A221_3,c221_3,e221,hx221_0,hx221_1,hx221_2,hx221_3,hx221_4,hx221_5,hl221_3,hi221_3⟩:=at_T34 (Kd.V_reads' HO_0.out).2.2 x5_1 p221 q221
       cases e221
       obtain ⟨ce221,hce221,hMe221,hcc221⟩:=Kd.V_get HO_0.out z34 x5_1 p221 (by first | exact q221 | exact of_decide_eq_true (by first | (with_reducible assumption) | assumption) | (have e_:=(Kd.V_reads' HO_0.out).1;omega))
       obtain ⟨ua221_3,uc221_3,rfl,ul221_3,ge221_3⟩:=k34_openF hMe221
       have hv221_3:=hcc221 3 _ rfl
       rw [add_field _ _ 3 (by omega)] at hv221_3
       replace hv221_3:=Option.some.inj (hv221_3.symm.trans hx221_3)
       injection hv221_3 with hva_ hvn_ hvc_
       rw [hva_] at ge221_3
       rw [hvc_] at ul221_3
       have HL221_3:=As.mk (show Kd.V Kd.string 9 _ w.heap.size _ _ ((rd_T34 l0 x5_1).f3) from Kd.V_mk ul221_3 ge221_3)
       clear hva_ hvn_ hvc_ ge221_3 ul221_3
       clear hcc221 hce221
       have HR221_3:=As.mk hi221_3
       have HC221_3:=As.mk hl221_3
       clear hi221_3 hl221_3
       replace p221:=eq_true p221
       replace q221:=eq_true q221
       go_wp2_with (first | ((with_reducible refine gC (f:=62) rfl ?_);refine goesL_ (some 17) rfl rfl Tryz.func62 (by kernel_rfl) rfl #[.agg #[.int .i64 ((rd_T34 l0 x5_1).f0),.string ((rd_T34 l0 x5_1).f1),.string ((rd_T34 l0 x5_1).f2),.slice A221_3 ((rd_T34 l0 x5_1).f3).length c221_3,.string ((rd_T34 l0 x5_1).f4),.string ((rd_T34 l0 x5_1).f5)]] rfl (by (try simp only [List.map_toArray,List.map_cons,List.map_nil]);first | done | rfl | (simp only [List.length_drop,List.length_take];rfl)) ?_;(with_reducible refine (r07_Key.calls k1 ((rd_T34 l0 x5_1).f0) ((rd_T34 l0 x5_1).f1) ((rd_T34 l0 x5_1).f2) _ _ ((rd_T34 l0 x5_1).f3) ((rd_T34 l0 x5_1).f4) ((rd_T34 l0 x5_1).f5) t222 _ ?side1 ?side2 A4.out).mono ?_);(case side1=>repeat (first | exact (by repeat (first | (with_reducible exact HR221_3.out) | (with_reducible refine Kd.C_alloc ?_ _) | (with_reducible refine Kd.C_drewN ?_ _) | (with_reducible refine Kd.C_drew ?_) | exact HR221_3.out)) | (with_reducible refine Kd.C_alloc ?_ _) | (with_reducible refine Kd.C_drewN ?_ _) | (with_reducible refine Kd.C_drew ?_)));(case side2=>exact HC221_3.out);rintro e w9 ⟨rfl,hb⟩;refine ⟨_,rfl,?_⟩;have n0_:=As.mk (Kd.V_below (by (with_reducible repeat (first | apply Kd.V_alloc | apply Kd.V_drewN | apply Kd.V_drew));exact HO_0.out) hb);have n1_:=As.mk (Kd.N_below (by (with_reducible repeat (first | apply Kd.N_alloc | apply Kd.N_drewN | apply Kd.N_drew));exact HO_4.out) hb);have n2_:=As.mk (Kd.V_below (by (with_reducible repeat (first | apply Kd.V_alloc | apply Kd.V_drewN | apply Kd.V_drew));exact HL221_3.out) hb);have n3_:=As.mk (Kd.C_below (by repeat (first | (with_reducible exact HR221_3.out) | (with_reducible refine Kd.C_alloc ?_ _) | (with_reducible refine Kd.C_drewN ?_ _) | (with_reducible refine Kd.C_drew ?_) | exact HR221_3.out)) hb);have n4_:=As.mk (bS (by repeat (first | (with_reducible first | exact HB.out | apply bA | apply bN | apply bD) | exact HB.out)) hb);clear HO_0;clear HO_4;clear HL221_3;clear HR221_3;clear HB;have HO_0:=n0_;have HO_4:=n1_;have HL221_3:=n2_;have HR221_3:=n3_;have HB:=n4_;clear n0_ n1_ n2_ n3_ n4_;(try clear hb);(try clear hb2);(try clear hk);(try clear hi);obtain ⟨Ao10,co10,eo10⟩:=Kd.N_slice HO_4.out;subst eo10) | ((with_reducible refine gC (f:=33) rfl ?_);refine goesL_ (some 22) rfl rfl Tryz.func33 (by kernel_rfl) rfl #[.slice Ao10 x4_1.length co10,.string t222] rfl (by (try simp only [List.map_toArray,List.map_cons,List.map_nil]);first | done | rfl | (simp only [List.length_drop,List.length_take];rfl)) ?_;(with_reducible refine (r08_Find.calls k1 _ _ x4_1 t222 t223 _ ?side1 ?side2 A7.out).mono ?_);(case side1=>repeat (first | exact (Kd.N_reads' HO_4.out).2.2 | (with_reducible refine Kd.C_alloc ?_ _) | (with_reducible refine Kd.C_drewN ?_ _) | (with_reducible refine Kd.C_drew ?_)));(case side2=>exact (Kd.N_reads' HO_4.out).2.1);rintro e w11 ⟨rfl,hb⟩;refine ⟨_,rfl,?_⟩;have n0_:=As.mk (Kd.V_below (by (with_reducible repeat (first | apply Kd.V_alloc | apply Kd.V_drewN | apply Kd.V_drew));exact HO_0.out) hb);have n1_:=As.mk (Kd.N_below (by (with_reducible repeat (first | apply Kd.N_alloc | apply Kd.N_drewN | apply Kd.N_drew));exact HO_4.out) hb);have n2_:=As.mk (Kd.V_below (by (with_reducible repeat (first | apply Kd.V_alloc | apply Kd.V_drewN | apply Kd.V_drew));exact HL221_3.out) hb);have n3_:=As.mk (Kd.C_below (by repeat (first | (with_reducible exact HR221_3.out) | (with_reducible refine Kd.C_alloc ?_ _) | (with_reducible refine Kd.C_drewN ?_ _) | (with_reducible refine Kd.C_drew ?_) | exact HR221_3.out)) hb);have n4_:=As.mk (bS (by repeat (first | (with_reducible first | exact HB.out | apply bA | apply bN | apply bD) | exact HB.out)) hb);clear HO_0;clear HO_4;clear HL221_3;clear HR221_3;clear HB;have HO_0:=n0_;have HO_4:=n1_;have HL221_3:=n2_;have HR221_3:=n3_;have HB:=n4_;clear n0_ n1_ n2_ n3_ n4_;(try clear hb);(try clear hb2);(try clear hk);(try clear hi)))
       go_ret2
       exact ⟨_,by first | rfl | (simp [eN,eS] <;> rfl) | (simp [*,eN,eS] <;> rfl),by first | exact Kd.S_nil _ _ _ _ _ | exact Kd.N_nil _ _ _ _ _ | exact Kd.V_nil _ _ _ _ _ | exact Kd.Q_nil _ _ _ _ _ | exact Kd.R_nil _ _ _ _ _,by repeat (first | (with_reducible first | exact HB.out | apply bA | apply bN | apply bD) | exact HB.out)⟩
      ·rw [if_neg c8] at H
       have c8b0 : decide (0 ≤ t223) = false:=decide_eq_false c8
       clear c8
       by_cases c12 : (x4_1.length : Int) = 500
       ·rw [if_pos c12] at H
        have c12b0 : ((x4_1.length : Int) == 500) = true:=beq_iff_eq.mpr c12
        have c12b1 : ((x4_1.length : Int) != 500) = false:=bne_eq_false_iff_eq.mpr c12
        clear c12
        simp only [Option.some.injEq,Prod.mk.injEq] at H
        obtain ⟨rfl,rfl⟩:=H
        have p221 : 0 ≤ (x5_1 : Int):=of_decide_eq_true (by first | (with_reducible assumption) | assumption)
        have q221 : x5_1 < (l0.length : Int):=of_decide_eq_true (by first | (with_reducible assumption) | assumption)
        obtain ⟨ad221,A221_3,c221_3,e221,hx221_0,hx221_1,hx221_2,hx221_3,hx221_4,hx221_5,hl221_3,hi221_3⟩:=at_T34 (Kd.V_reads' HO_0.out).2.2 x5_1 p221 q221
        cases e221
        obtain ⟨ce221,hce221,hMe221,hcc221⟩:=Kd.V_get HO_0.out z34 x5_1 p221 (by first | exact q221 | exact of_decide_eq_true (by first | (with_reducible assumption) | assumption) | (have e_:=(Kd.V_reads' HO_0.out).1;omega))
        obtain ⟨ua221_3,uc221_3,rfl,ul221_3,ge221_3⟩:=k34_openF hMe221
        have hv221_3:=hcc221 3 _ rfl
        rw [add_field _ _ 3 (by omega)] at hv221_3
        replace hv221_3:=Option.some.inj (hv221_3.symm.trans hx221_3)
        injection hv221_3 with hva_ hvn_ hvc_
        rw [hva_] at ge221_3
        rw [hvc_] at ul221_3
        have HL221_3:=As.mk (show Kd.V Kd.string 9 _ w.heap.size _ _ ((rd_T34 l0 x5_1).f3) from Kd.V_mk ul221_3 ge221_3)
        clear hva_ hvn_ hvc_ ge221_3 ul221_3
        clear hcc221 hce221
        have HR221_3:=As.mk hi221_3
        have HC221_3:=As.mk hl221_3
        clear hi221_3 hl221_3
        replace p221:=eq_true p221
        replace q221:=eq_true q221
        go_wp2_with (first | ((with_reducible refine gC (f:=62) rfl ?_);refine goesL_ (some 17) rfl rfl Tryz.func62 (by kernel_rfl) rfl #[.agg #[.int .i64 ((rd_T34 l0 x5_1).f0),.string ((rd_T34 l0 x5_1).f1),.string ((rd_T34 l0 x5_1).f2),.slice A221_3 ((rd_T34 l0 x5_1).f3).length c221_3,.string ((rd_T34 l0 x5_1).f4),.string ((rd_T34 l0 x5_1).f5)]] rfl (by (try simp only [List.map_toArray,List.map_cons,List.map_nil]);first | done | rfl | (simp only [List.length_drop,List.length_take];rfl)) ?_;(with_reducible refine (r07_Key.calls k1 ((rd_T34 l0 x5_1).f0) ((rd_T34 l0 x5_1).f1) ((rd_T34 l0 x5_1).f2) _ _ ((rd_T34 l0 x5_1).f3) ((rd_T34 l0 x5_1).f4) ((rd_T34 l0 x5_1).f5) t222 _ ?side1 ?side2 A4.out).mono ?_);(case side1=>repeat (first | exact (by repeat (first | (with_reducible exact HR221_3.out) | (with_reducible refine Kd.C_alloc ?_ _) | (with_reducible refine Kd.C_drewN ?_ _) | (with_reducible refine Kd.C_drew ?_) | exact HR221_3.out)) | (with_reducible refine Kd.C_alloc ?_ _) | (with_reducible refine Kd.C_drewN ?_ _) | (with_reducible refine Kd.C_drew ?_)));(case side2=>exact HC221_3.out);rintro e w13 ⟨rfl,hb⟩;refine ⟨_,rfl,?_⟩;have n0_:=As.mk (Kd.V_below (by (with_reducible repeat (first | apply Kd.V_alloc | apply Kd.V_drewN | apply Kd.V_drew));exact HO_0.out) hb);have n1_:=As.mk (Kd.N_below (by (with_reducible repeat (first | apply Kd.N_alloc | apply Kd.N_drewN | apply Kd.N_drew));exact HO_4.out) hb);have n2_:=As.mk (Kd.V_below (by (with_reducible repeat (first | apply Kd.V_alloc | apply Kd.V_drewN | apply Kd.V_drew));exact HL221_3.out) hb);have n3_:=As.mk (Kd.C_below (by repeat (first | (with_reducible exact HR221_3.out) | (with_reducible refine Kd.C_alloc ?_ _) | (with_reducible refine Kd.C_drewN ?_ _) | (with_reducible refine Kd.C_drew ?_) | exact HR221_3.out)) hb);have n4_:=As.mk (bS (by repeat (first | (with_reducible first | exact HB.out | apply bA | apply bN | apply bD) | exact HB.out)) hb);clear HO_0;clear HO_4;clear HL221_3;clear HR221_3;clear HB;have HO_0:=n0_;have HO_4:=n1_;have HL221_3:=n2_;have HR221_3:=n3_;have HB:=n4_;clear n0_ n1_ n2_ n3_ n4_;(try clear hb);(try clear hb2);(try clear hk);(try clear hi);obtain ⟨Ao14,co14,eo14⟩:=Kd.N_slice HO_4.out;subst eo14) | ((with_reducible refine gC (f:=33) rfl ?_);refine goesL_ (some 22) rfl rfl Tryz.func33 (by kernel_rfl) rfl #[.slice Ao14 x4_1.length co14,.string t222] rfl (by (try simp only [List.map_toArray,List.map_cons,List.map_nil]);first | done | rfl | (simp only [List.length_drop,List.length_take];rfl)) ?_;(with_reducible refine (r08_Find.calls k1 _ _ x4_1 t222 t223 _ ?side1 ?side2 A7.out).mono ?_);(case side1=>repeat (first | exact (Kd.N_reads' HO_4.out).2.2 | (with_reducible refine Kd.C_alloc ?_ _) | (with_reducible refine Kd.C_drewN ?_ _) | (with_reducible refine Kd.C_drew ?_)));(case side2=>exact (Kd.N_reads' HO_4.out).2.1);rintro e w15 ⟨rfl,hb⟩;refine ⟨_,rfl,?_⟩;have n0_:=As.mk (Kd.V_below (by (with_reducible repeat (first | apply Kd.V_alloc | apply Kd.V_drewN | apply Kd.V_drew));exact HO_0.out) hb);have n1_:=As.mk (Kd.N_below (by (with_reducible repeat (first | apply Kd.N_alloc | apply Kd.N_drewN | apply Kd.N_drew));exact HO_4.out) hb);have n2_:=As.mk (Kd.V_below (by (with_reducible repeat (first | apply Kd.V_alloc | apply Kd.V_drewN | apply Kd.V_drew));exact HL221_3.out) hb);have n3_:=As.mk (Kd.C_below (by repeat (first | (with_reducible exact HR221_3.out) | (with_reducible refine Kd.C_alloc ?_ _) | (with_reducible refine Kd.C_drewN ?_ _) | (with_reducible refine Kd.C_drew ?_) | exact HR221_3.out)) hb);have n4_:=As.mk (bS (by repeat (first | (with_reducible first | exact HB.out | apply bA | apply bN | apply bD) | exact HB.out)) hb);clear HO_0;clear HO_4;clear HL221_3;clear HR221_3;clear HB;have HO_0:=n0_;have HO_4:=n1_;have HL221_3:=n2_;have HR221_3:=n3_;have HB:=n4_;clear n0_ n1_ n2_ n3_ n4_;(try clear hb);(try clear hb2);(try clear hk);(try clear hi)))
        go_ret2
        exact ⟨_,by first | rfl | (simp [eN,eS] <;> rfl) | (simp [*,eN,eS] <;> rfl),by first | exact Kd.S_nil _ _ _ _ _ | exact Kd.N_nil _ _ _ _ _ | exact Kd.V_nil _ _ _ _ _ | exact Kd.Q_nil _ _ _ _ _ | exact Kd.R_nil _ _ _ _ _,by repeat (first | (with_reducible first | exact HB.out | apply bA | apply bN | apply bD) | exact HB.out)⟩
       ·rw [if_neg c12] at H
        have c12b0 : ((x4_1.length : Int) == 500) = false:=beq_eq_false_iff_ne.mpr c12
        have c12b1 : ((x4_1.length : Int) != 500) = true:=bne_iff_ne.mpr c12
        replace H:=Option.bind_eq_some_iff.mp H
        obtain ⟨t225,A160,H⟩:=H
        replace H : (r08_New.l0 k1 l0 t225 (wrap64 (x5_1 + 1))) = some (r1,r2):=H
        have A16:=As.mk A160
        clear A160
        have H':=As.mk H
        clear H
        have p221 : 0 ≤ (x5_1 : Int):=of_decide_eq_true (by first | (with_reducible assumption) | assumption)
        have q221 : x5_1 < (l0.length : Int):=of_decide_eq_true (by first | (with_reducible assumption) | assumption)
        obtain ⟨ad221,A221_3,c221_3,e221,hx221_0,hx221_1,hx221_2,hx221_3,hx221_4,hx221_5,hl221_3,hi221_3⟩:=at_T34 (Kd.V_reads' HO_0.out).2.2 x5_1 p221 q221
        cases e221
        obtain ⟨ce221,hce221,hMe221,hcc221⟩:=Kd.V_get HO_0.out z34 x5_1 p221 (by first | exact q221 | exact of_decide_eq_true (by first | (with_reducible assumption) | assumption) | (have e_:=(Kd.V_reads' HO_0.out).1;omega))
        obtain ⟨ua221_3,uc221_3,rfl,ul221_3,ge221_3⟩:=k34_openF hMe221
        have hv221_3:=hcc221 3 _ rfl
        rw [add_field _ _ 3 (by omega)] at hv221_3
        replace hv221_3:=Option.some.inj (hv221_3.symm.trans hx221_3)
        injection hv221_3 with hva_ hvn_ hvc_
        rw [hva_] at ge221_3
        rw [hvc_] at ul221_3
        have HL221_3:=As.mk (show Kd.V Kd.string 9 _ w.heap.size _ _ ((rd_T34 l0 x5_1).f3) from Kd.V_mk ul221_3 ge221_3)
        clear hva_ hvn_ hvc_ ge221_3 ul221_3
        clear hcc221 hce221
        have HR221_3:=As.mk hi221_3
        have HC221_3:=As.mk hl221_3
        clear hi221_3 hl221_3
        replace p221:=eq_true p221
        replace q221:=eq_true q221
        go_wp2_with (first | ((with_reducible refine gC (f:=62) rfl ?_);refine goesL_ (some 17) rfl rfl Tryz.func62 (by kernel_rfl) rfl #[.agg #[.int .i64 ((rd_T34 l0 x5_1).f0),.string ((rd_T34 l0 x5_1).f1),.string ((rd_T34 l0 x5_1).f2),.slice A221_3 ((rd_T34 l0 x5_1).f3).length c221_3,.string ((rd_T34 l0 x5_1).f4),.string ((rd_T34 l0 x5_1).f5)]] rfl (by (try simp only [List.map_toArray,List.map_cons,List.map_nil]);first | done | rfl | (simp only [List.length_drop,List.length_take];rfl)) ?_;(with_reducible refine (r07_Key.calls k1 ((rd_T34 l0 x5_1).f0) ((rd_T34 l0 x5_1).f1) ((rd_T34 l0 x5_1).f2) _ _ ((rd_T34 l0 x5_1).f3) ((rd_T34 l0 x5_1).f4) ((rd_T34 l0 x5_1).f5) t222 _ ?side1 ?side2 A4.out).mono ?_);(case side1=>repeat (first | exact (by repeat (first | (with_reducible exact HR221_3.out) | (with_reducible refine Kd.C_alloc ?_ _) | (with_reducible refine Kd.C_drewN ?_ _) | (with_reducible refine Kd.C_drew ?_) | exact HR221_3.out)) | (with_reducible refine Kd.C_alloc ?_ _) | (with_reducible refine Kd.C_drewN ?_ _) | (with_reducible refine Kd.C_drew ?_)));(case side2=>exact HC221_3.out);rintro e w17 ⟨rfl,hb⟩;refine ⟨_,rfl,?_⟩;have n0_:=As.mk (Kd.V_below (by (with_reducible repeat (first | apply Kd.V_alloc | apply Kd.V_drewN | apply Kd.V_drew));exact HO_0.out) hb);have n1_:=As.mk (Kd.N_below (by (with_reducible repeat (first | apply Kd.N_alloc | apply Kd.N_drewN | apply Kd.N_drew));exact HO_4.out) hb);have n2_:=As.mk (Kd.V_below (by (with_reducible repeat (first | apply Kd.V_alloc | apply Kd.V_drewN | apply Kd.V_drew));exact HL221_3.out) hb);have n3_:=As.mk (Kd.C_below (by repeat (first | (with_reducible exact HR221_3.out) | (with_reducible refine Kd.C_alloc ?_ _) | (with_reducible refine Kd.C_drewN ?_ _) | (with_reducible refine Kd.C_drew ?_) | exact HR221_3.out)) hb);have n4_:=As.mk (bS (by repeat (first | (with_reducible first | exact HB.out | apply bA | apply bN | apply bD) | exact HB.out)) hb);clear HO_0;clear HO_4;clear HL221_3;clear HR221_3;clear HB;have HO_0:=n0_;have HO_4:=n1_;have HL221_3:=n2_;have HR221_3:=n3_;have HB:=n4_;clear n0_ n1_ n2_ n3_ n4_;(try clear hb);(try clear hb2);(try clear hk);(try clear hi);obtain ⟨Ao18,co18,eo18⟩:=Kd.N_slice HO_4.out;subst eo18) | ((with_reducible refine gC (f:=33) rfl ?_);refine goesL_ (some 22) rfl rfl Tryz.func33 (by kernel_rfl) rfl #[.slice Ao18 x4_1.length co18,.string t222] rfl (by (try simp only [List.map_toArray,List.map_cons,List.map_nil]);first | done | rfl | (simp only [List.length_drop,List.length_take];rfl)) ?_;(with_reducible refine (r08_Find.calls k1 _ _ x4_1 t222 t223 _ ?side1 ?side2 A7.out).mono ?_);(case side1=>repeat (first | exact (Kd.N_reads' HO_4.out).2.2 | (with_reducible refine Kd.C_alloc ?_ _) | (with_reducible refine Kd.C_drewN ?_ _) | (with_reducible refine Kd.C_drew ?_)));(case side2=>exact (Kd.N_reads' HO_4.out).2.1);rintro e w19 ⟨rfl,hb⟩;refine ⟨_,rfl,?_⟩;have n0_:=As.mk (Kd.V_below (by (with_reducible repeat (first | apply Kd.V_alloc | apply Kd.V_drewN | apply Kd.V_drew));exact HO_0.out) hb);have n1_:=As.mk (Kd.N_below (by (with_reducible repeat (first | apply Kd.N_alloc | apply Kd.N_drewN | apply Kd.N_drew));exact HO_4.out) hb);have n2_:=As.mk (Kd.V_below (by (with_reducible repeat (first | apply Kd.V_alloc | apply Kd.V_drewN | apply Kd.V_drew));exact HL221_3.out) hb);have n3_:=As.mk (Kd.C_below (by repeat (first | (with_reducible exact HR221_3.out) | (with_reducible refine Kd.C_alloc ?_ _) | (with_reducible refine Kd.C_drewN ?_ _) | (with_reducible refine Kd.C_drew ?_) | exact HR221_3.out)) hb);have n4_:=As.mk (bS (by repeat (first | (with_reducible first | exact HB.out | apply bA | apply bN | apply bD) | exact HB.out)) hb);clear HO_0;clear HO_4;clear HL221_3;clear HR221_3;clear HB;have HO_0:=n0_;have HO_4:=n1_;have HL221_3:=n2_;have HR221_3:=n3_;have HB:=n4_;clear n0_ n1_ n2_ n3_ n4_;(try clear hb);(try clear hb2);(try clear hk);(try clear hi);have p224 : 0 ≤ (x5_1 : Int):=of_decide_eq_true (by first | (with_reducible assumption) | assumption);have q224 : x5_1 < (l0.length : Int):=of_decide_eq_true (by first | (with_reducible assumption) | assumption);obtain ⟨ad224,A224_3,c224_3,e224,hx224_0,hx224_1,hx224_2,hx224_3,hx224_4,hx224_5,hl224_3,hi224_3⟩:=at_T34 (Kd.V_reads' HO_0.out).2.2 x5_1 p224 q224;obtain rfl : ad221 = ad224:=(by injection e224);obtain ⟨ce224,hce224,hMe224,hcc224⟩:=Kd.V_get HO_0.out z34 x5_1 p224 (by first | exact q224 | exact of_decide_eq_true (by first | (with_reducible assumption) | assumption) | (have e_:=(Kd.V_reads' HO_0.out).1;omega));obtain ⟨ua224_3,uc224_3,rfl,ul224_3,ge224_3⟩:=k34_openF hMe224;have hv224_3:=hcc224 3 _ rfl;rw [add_field _ _ 3 (by omega)] at hv224_3;replace hv224_3:=Option.some.inj (hv224_3.symm.trans hx224_3);injection hv224_3 with hva_ hvn_ hvc_;rw [hva_] at ge224_3;rw [hvc_] at ul224_3;have HL224_3:=As.mk (show Kd.V Kd.string 9 _ w.heap.size _ _ ((rd_T34 l0 x5_1).f3) from Kd.V_mk ul224_3 ge224_3);clear hva_ hvn_ hvc_ ge224_3 ul224_3;clear hcc224 hce224;have HR224_3:=As.mk hi224_3;have HC224_3:=As.mk hl224_3;clear hi224_3 hl224_3;replace p224:=eq_true p224;replace q224:=eq_true q224) | ((with_reducible refine gC (f:=25) rfl ?_);refine goesL_ (some 32) rfl rfl Tryz.func25 (by kernel_rfl) rfl #[.slice Ao18 x4_1.length co18,.agg #[.int .i64 ((rd_T34 l0 x5_1).f0),.string ((rd_T34 l0 x5_1).f1),.string ((rd_T34 l0 x5_1).f2),.slice A224_3 ((rd_T34 l0 x5_1).f3).length c224_3,.string ((rd_T34 l0 x5_1).f4),.string ((rd_T34 l0 x5_1).f5)]] rfl (by (try simp only [List.map_toArray,List.map_cons,List.map_nil]);first | done | rfl | (simp only [List.length_drop,List.length_take];rfl)) ?_;(with_reducible refine (r08_Put.calls k1 (fun k_=>(P0_ k_ ∨ w.heap.size ≤ k_)) _ _ x4_1 ((rd_T34 l0 x5_1).f0) ((rd_T34 l0 x5_1).f1) ((rd_T34 l0 x5_1).f2) (fun k_=>((P0_ k_ ∨ w.heap.size ≤ k_) ∧ some k_ ≠ (.slice Ao18 x4_1.length co18 : Value).ownBlock)) _ _ ((rd_T34 l0 x5_1).f3) ((rd_T34 l0 x5_1).f4) ((rd_T34 l0 x5_1).f5) t225 _ ?side1 ?side2 A16.out).mono ?_);(case side1=>exact Kd.N_V (HO_4.out));(case side2=>exact HL224_3.out);rintro e w20 ⟨v226,rfl,ho0,hb⟩;refine ⟨_,rfl,?_⟩;have n0_:=As.mk (Kd.V_elder' (by (with_reducible repeat (first | apply Kd.V_alloc | apply Kd.V_drewN | apply Kd.V_drew));exact HO_0.out) (Kd.N_base ho0) hb);have n1_:=As.mk (Kd.N_elder' (by (with_reducible repeat (first | apply Kd.N_alloc | apply Kd.N_drewN | apply Kd.N_drew));exact HO_4.out) (Kd.N_base ho0) hb);have n2_:=As.mk (Kd.V_elder' (by (with_reducible repeat (first | apply Kd.V_alloc | apply Kd.V_drewN | apply Kd.V_drew));exact HL221_3.out) (Kd.N_base ho0) hb);have n3_:=As.mk (Kd.V_elder' (by (with_reducible repeat (first | apply Kd.V_alloc | apply Kd.V_drewN | apply Kd.V_drew));exact HL224_3.out) (Kd.N_base ho0) hb);have n4_:=As.mk (Kd.N_lower (Kd.N_mono (ok':=fun k_=>(P0_ k_ ∨ w.heap.size ≤ k_)) ho0 (fun k_ hk_=>Or.elim hk_ (fun hs_=>Or.elim hs_ (fun hs_=>hs_) (fun hs_=>hs_.1)) (fun hn_=>(.inr (Nat.le_trans (bZ (by repeat (first | (with_reducible first | exact HB.out | apply bA | apply bN | apply bD) | exact HB.out))) hn_))))) (bZ (by repeat (first | (with_reducible first | exact HB.out | apply bA | apply bN | apply bD) | exact HB.out))));have n5_:=As.mk (Kd.C_below (by repeat (first | (with_reducible exact HR221_3.out) | (with_reducible refine Kd.C_alloc ?_ _) | (with_reducible refine Kd.C_drewN ?_ _) | (with_reducible refine Kd.C_drew ?_) | exact HR221_3.out)) hb);have n6_:=As.mk (Kd.C_below (by repeat (first | (with_reducible exact HR224_3.out) | (with_reducible refine Kd.C_alloc ?_ _) | (with_reducible refine Kd.C_drewN ?_ _) | (with_reducible refine Kd.C_drew ?_) | exact HR224_3.out)) hb);have n7_:=As.mk (bS (by repeat (first | (with_reducible first | exact HB.out | apply bA | apply bN | apply bD) | exact HB.out)) hb);clear HO_0;clear HO_4;clear HL221_3;clear HL224_3;clear HR221_3;clear HR224_3;clear HB;have HO_0:=n0_;have HO_4:=n1_;have HL221_3:=n2_;have HL224_3:=n3_;have HO227:=n4_;have HR221_3:=n5_;have HR224_3:=n6_;have HB:=n7_;clear n0_ n1_ n2_ n3_ n4_ n5_ n6_ n7_;(try clear hb);(try clear hb2);(try clear hk);(try clear hi);(try clear ho0)))
        go_roundg k1
        case measure=>have:=HK1.out;omega
        case rel=>exact ⟨(t225),(wrap64 (x5_1 + 1)),(by first | rfl | (simp;done) | (simp [*];done)),H',⟨by have:=HK1.out;omega⟩,⟨by (with_reducible repeat (first | apply Kd.V_alloc | apply Kd.V_drewN | apply Kd.V_drew));exact Kd.V_mono HO_0.out (fun _ hk=>⟨hk.1.1,hk.2⟩)⟩,⟨by (with_reducible repeat (first | apply Kd.N_alloc | apply Kd.N_drewN | apply Kd.N_drew));exact HO227.out⟩,⟨by repeat (first | (with_reducible first | exact HB.out | apply bA | apply bN | apply bD) | exact HB.out)⟩⟩
    ·rw [if_neg c3] at H
     exact absurd H (by simp)
   ·rw [if_neg c2] at H
    have c2b0 : decide (x5_1 < (l0.length : Int)) = false:=decide_eq_false c2
    clear c2
    simp only [Option.some.injEq,Prod.mk.injEq] at H
    obtain ⟨rfl,rfl⟩:=H
    go_wp2
    go_ret2
    exact ⟨_,by first | rfl | (simp [eN,eS] <;> rfl) | (simp [*,eN,eS] <;> rfl),by (with_reducible repeat (first | apply Kd.N_alloc | apply Kd.N_drewN | apply Kd.N_drew));exact HO_4.out,by repeat (first | (with_reducible first | exact HB.out | apply bA | apply bN | apply bD) | exact HB.out)⟩
end Go.Proofs.YtmlebgikdegjjaaGreatDoor.PAll
