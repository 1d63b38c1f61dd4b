import Derived.Test.YtmlebgikdegjjaaGreatDoorPAllx0
import Derived.Test.YtmlebgikdegjjaaGreatDoorPAllx6
set_option maxHeartbeats 8000000
set_option maxRecDepth 100000
namespace Go.Proofs.YtmlebgikdegjjaaGreatDoor.PAll
open Go.RowKit Go.Proofs.YtmlebgikdegjjaaGreatDoorW.PrintWords Go.Proofs.YtmlebgikdegjjaaGreatDoorW.PrintLast Go.Proofs.YtmlebgikdegjjaaGreatDoorW.PrintMore
attribute [local go_sem] max2_int min2_int max_two min_two max_three min_three max_four min_four   -- for this text's walks alone
set_option linter.unusedVariables false
set_option linter.unusedSimpArgs false
/-! ### r07_Key: function 62 -/
def r07_Key.f (k : Nat) (a0_0 : Int) (a0_1 : ByteArray) (a0_2 : ByteArray) (l0_3 : List ByteArray) (a0_4 : ByteArray) (a0_5 : ByteArray) : Option (ByteArray):=(r07_Right.f k a0_0 a0_1 a0_2 l0_3 a0_4 a0_5).bind fun t200=>(if t200 = true then (if a0_0 = 1 then (some a0_1) else (if a0_1.size + 2 ≤ 9223372036854775807 then (if (a0_1 ++ (⟨#[62,62]⟩ : ByteArray)).size + a0_4.size ≤ 9223372036854775807 then (some ((a0_1 ++ (⟨#[62,62]⟩ : ByteArray)) ++ a0_4)) else (none)) else (none))) else (some (⟨#[]⟩ : ByteArray)))
theorem r07_Key.mono : ∀ a0 a1 a2 a3 a4 a5 k,LeO (r07_Key.f k a0 a1 a2 a3 a4 a5) (r07_Key.f (k + 1) a0 a1 a2 a3 a4 a5):=by
 intro a0 a1 a2 a3 a4 a5 k
 unfold r07_Key.f
 repeat' first
   | (with_reducible exact r07_Right.mono _ _ _ _ _ _ _)
   | (with_reducible exact LeO.refl _)
   | (with_reducible exact LeO.none _)
   | (with_reducible refine LeO.ite ?_ ?_)
   | (with_reducible refine LeO.bind ?_ (fun _=>?_))
   | exact r07_Right.mono _ _ _ _ _ _ _
   | exact LeO.none _
   | refine LeO.ite ?_ ?_
   | refine LeO.bind ?_ (fun _=>?_)
theorem r07_Key.calls (k : Nat) (a0_0 : Int) (a0_1 : ByteArray) (a0_2 : ByteArray) (A0_3 : Option Addr) (c0_3 : Nat) (l0_3 : List ByteArray) (a0_4 : ByteArray) (a0_5 : ByteArray) (r : ByteArray) (w : World) (hr0_3 : Kd.C Kd.string w A0_3 l0_3.length l0_3) (hc0_3 : l0_3.length ≤ c0_3) (h : r07_Key.f k a0_0 a0_1 a0_2 l0_3 a0_4 a0_5 = some r) :
  Calls Tryz.prog 62 #[.agg #[.int .i64 a0_0,.string a0_1,.string a0_2,.slice A0_3 l0_3.length c0_3,.string a0_4,.string a0_5]] w fun e w'=>e = .returned (.string r) ∧ Below w.heap.size w w':=by
 have hu34:=Tryz.underlying34
 have HR0_3:=As.mk hr0_3
 have HC0_3:=As.mk hc0_3
 clear hr0_3 hc0_3
 have HB:=As.mk (Below.refl w.heap.size w)
 have H : ((r07_Right.f k a0_0 a0_1 a0_2 l0_3 a0_4 a0_5).bind fun t200=>(if t200 = true then (if a0_0 = 1 then (some a0_1) else (if a0_1.size + 2 ≤ 9223372036854775807 then (if (a0_1 ++ (⟨#[62,62]⟩ : ByteArray)).size + a0_4.size ≤ 9223372036854775807 then (some ((a0_1 ++ (⟨#[62,62]⟩ : ByteArray)) ++ a0_4)) else (none)) else (none))) else (some (⟨#[]⟩ : ByteArray)))) = some r:=h
 clear h
 replace H:=Option.bind_eq_some_iff.mp H
 obtain ⟨t200,A20,H⟩:=H
 replace H : (if t200 = true then (if a0_0 = 1 then (some a0_1) else (if a0_1.size + 2 ≤ 9223372036854775807 then (if (a0_1 ++ (⟨#[62,62]⟩ : ByteArray)).size + a0_4.size ≤ 9223372036854775807 then (some ((a0_1 ++ (⟨#[62,62]⟩ : ByteArray)) ++ a0_4)) else (none)) else (none))) else (some (⟨#[]⟩ : ByteArray))) = some r:=H
 have A2:=As.mk A20
 clear A20
 by_cases c3 : t200 = true
 ·subst c3
  have H1 : (if a0_0 = 1 then (some a0_1) else (if a0_1.size + 2 ≤ 9223372036854775807 then (if (a0_1 ++ (⟨#[62,62]⟩ : ByteArray)).size + a0_4.size ≤ 9223372036854775807 then (some ((a0_1 ++ (⟨#[62,62]⟩ : ByteArray)) ++ a0_4)) else (none)) else (none))) = some r:=by rw [if_pos rfl] at H;exact H
  clear H
  have H:=H1
  clear H1
  by_cases c4 : a0_0 = 1
  ·rw [if_pos c4] at H
   have c4b0 : (a0_0 == 1) = true:=beq_iff_eq.mpr c4
   have c4b1 : (a0_0 != 1) = false:=bne_eq_false_iff_eq.mpr c4
   clear c4
   obtain rfl:=Option.some.inj H
   go_enter Tryz.func62,Tryz.ntmps62
   go_wp2_with (first | ((with_reducible refine gate_dst (N:=1) rfl ?_);refine box_event ?hg (N:=1) ?hd (cs:=#[.int .i64 a0_0,.string a0_1,.string a0_2,.slice A0_3 l0_3.length c0_3,.string a0_4,.string a0_5]) (t:=34) ?hr ?_;(case hd=>rfl);(case hg=>rfl);(case hr=>first | (go_simp;done) | (go_simp;rfl));intro gb199 hg w5 hbox hb;have n0_:=As.mk (bS (by repeat (first | (with_reducible first | exact HB.out | apply bA | apply bN | apply bD) | exact HB.out)) hb);have n1_:=As.mk (hbox);have n2_:=As.mk ((by rw [hg];exact (bZ (by repeat (first | (with_reducible first | exact HB.out | apply bA | apply bN | apply bD) | exact HB.out))) : w.heap.size ≤ gb199));have n3_:=As.mk ((by rw [hg];exact (bZ (by repeat (first | (with_reducible first | exact HB.out | apply bA | apply bN | apply bD) | exact HB.out))) : w.heap.size ≤ gb199));clear HB;have HB:=n0_;have BK199:=n1_;have GW199:=n2_;have GE199:=n3_;clear n0_ n1_ n2_ n3_;clear hb hbox hg;have hcz6_0 : w5.cell? ⟨gb199,0,none⟩ = some (.int .i64 a0_0):=(bC BK199.out 0).trans rfl;have hcz6_1 : w5.cell? ⟨gb199,1,none⟩ = some (.string a0_1):=(bC BK199.out 1).trans rfl;have hcz6_2 : w5.cell? ⟨gb199,2,none⟩ = some (.string a0_2):=(bC BK199.out 2).trans rfl;have hcz6_3 : w5.cell? ⟨gb199,3,none⟩ = some (.slice A0_3 l0_3.length c0_3):=(bC BK199.out 3).trans rfl;have hcz6_4 : w5.cell? ⟨gb199,4,none⟩ = some (.string a0_4):=(bC BK199.out 4).trans rfl;have hcz6_5 : w5.cell? ⟨gb199,5,none⟩ = some (.string a0_5):=(bC BK199.out 5).trans rfl;have hfz6_0:=bF BK199.out 0;have hfz6_1:=bF BK199.out 1;have hfz6_2:=bF BK199.out 2;have hfz6_3:=bF BK199.out 3;have hfz6_4:=bF BK199.out 4;have hfz6_5:=bF BK199.out 5) | ((with_reducible refine gC (f:=24) rfl ?_);refine goesL_ (some 4) rfl rfl Tryz.func24 (by kernel_rfl) rfl #[.agg #[.int .i64 a0_0,.string a0_1,.string a0_2,.slice A0_3 l0_3.length c0_3,.string a0_4,.string a0_5]] rfl (by (try simp only [List.map_toArray,List.map_cons,List.map_nil]);first | done | rfl | (simp only [List.length_drop,List.length_take];rfl)) ?_;(with_reducible refine (r07_Right.calls k a0_0 a0_1 a0_2 _ _ l0_3 a0_4 a0_5 true _ ?side1 ?side2 A2.out).mono ?_);(case side1=>repeat (first | exact (Kd.C_below HR0_3.out HB.out) | (with_reducible refine Kd.C_alloc ?_ _) | (with_reducible refine Kd.C_drewN ?_ _) | (with_reducible refine Kd.C_drew ?_)));(case side2=>exact HC0_3.out);rintro e w7 ⟨rfl,hb⟩;refine ⟨_,rfl,?_⟩;have n0_:=As.mk (blk_below (g:=gb199) (o:=.cells #[.int .i64 a0_0,.string a0_1,.string a0_2,.slice A0_3 l0_3.length c0_3,.string a0_4,.string a0_5] 34 (0,0)) (by (with_reducible repeat (first | refine kN ?_ _ | refine kD ?_ | refine kA ?_ _));exact BK199.out) hb);have n1_:=As.mk (bS (by repeat (first | (with_reducible first | exact HB.out | apply bA | apply bN | apply bD | refine bT ?_ GE199.out) | exact HB.out)) hb);clear BK199;clear HB;have BK199:=n0_;have HB:=n1_;clear n0_ n1_;(try clear hb);(try clear hb2);(try clear hk);(try clear hi);have hcz8_0 : w7.cell? ⟨gb199,0,none⟩ = some (.int .i64 a0_0):=(bC BK199.out 0).trans rfl;have hcz8_1 : w7.cell? ⟨gb199,1,none⟩ = some (.string a0_1):=(bC BK199.out 1).trans rfl;have hcz8_2 : w7.cell? ⟨gb199,2,none⟩ = some (.string a0_2):=(bC BK199.out 2).trans rfl;have hcz8_3 : w7.cell? ⟨gb199,3,none⟩ = some (.slice A0_3 l0_3.length c0_3):=(bC BK199.out 3).trans rfl;have hcz8_4 : w7.cell? ⟨gb199,4,none⟩ = some (.string a0_4):=(bC BK199.out 4).trans rfl;have hcz8_5 : w7.cell? ⟨gb199,5,none⟩ = some (.string a0_5):=(bC BK199.out 5).trans rfl;have hfz8_0:=bF BK199.out 0;have hfz8_1:=bF BK199.out 1;have hfz8_2:=bF BK199.out 2;have hfz8_3:=bF BK199.out 3;have hfz8_4:=bF BK199.out 4;have hfz8_5:=bF BK199.out 5))
   go_ret
   exact ⟨by first | rfl | (simp [eN,eS] <;> rfl) | (simp [*,eN,eS] <;> rfl),by repeat (first | (with_reducible first | exact HB.out | apply bA | apply bN | apply bD | refine bT ?_ GE199.out) | exact HB.out)⟩
  ·rw [if_neg c4] at H
   have c4b0 : (a0_0 == 1) = false:=beq_eq_false_iff_ne.mpr c4
   have c4b1 : (a0_0 != 1) = true:=bne_iff_ne.mpr c4
   by_cases c9 : a0_1.size + 2 ≤ 9223372036854775807
   ·rw [if_pos c9] at H
    have c9b0:=eq_true c9
    have c9b1 : decide (a0_1.size + 2 ≤ 9223372036854775807) = true:=decide_eq_true c9
    try have c9b2 : (9223372036854775807 < a0_1.size + 2) = False:=eq_false (Nat.not_lt.2 c9)
    by_cases c10 : (a0_1 ++ (⟨#[62,62]⟩ : ByteArray)).size + a0_4.size ≤ 9223372036854775807
    ·rw [if_pos c10] at H
     have c10b0:=eq_true c10
     have c10b1 : decide ((a0_1 ++ (⟨#[62,62]⟩ : ByteArray)).size + a0_4.size ≤ 9223372036854775807) = true:=decide_eq_true c10
     try have c10b2 : (9223372036854775807 < (a0_1 ++ (⟨#[62,62]⟩ : ByteArray)).size + a0_4.size) = False:=eq_false (Nat.not_lt.2 c10)
     try (have c10b3:=c10b2;simp only [ByteArray.size_append] at c10b3)
     obtain rfl:=Option.some.inj H
     go_enter Tryz.func62,Tryz.ntmps62
     go_wp2_with (first | ((with_reducible refine gate_dst (N:=1) rfl ?_);refine box_event ?hg (N:=1) ?hd (cs:=#[.int .i64 a0_0,.string a0_1,.string a0_2,.slice A0_3 l0_3.length c0_3,.string a0_4,.string a0_5]) (t:=34) ?hr ?_;(case hd=>rfl);(case hg=>rfl);(case hr=>first | (go_simp;done) | (go_simp;rfl));intro gb199 hg w11 hbox hb;have n0_:=As.mk (bS (by repeat (first | (with_reducible first | exact HB.out | apply bA | apply bN | apply bD) | exact HB.out)) hb);have n1_:=As.mk (hbox);have n2_:=As.mk ((by rw [hg];exact (bZ (by repeat (first | (with_reducible first | exact HB.out | apply bA | apply bN | apply bD) | exact HB.out))) : w.heap.size ≤ gb199));have n3_:=As.mk ((by rw [hg];exact (bZ (by repeat (first | (with_reducible first | exact HB.out | apply bA | apply bN | apply bD) | exact HB.out))) : w.heap.size ≤ gb199));clear HB;have HB:=n0_;have BK199:=n1_;have GW199:=n2_;have GE199:=n3_;clear n0_ n1_ n2_ n3_;clear hb hbox hg;have hcz12_0 : w11.cell? ⟨gb199,0,none⟩ = some (.int .i64 a0_0):=(bC BK199.out 0).trans rfl;have hcz12_1 : w11.cell? ⟨gb199,1,none⟩ = some (.string a0_1):=(bC BK199.out 1).trans rfl;have hcz12_2 : w11.cell? ⟨gb199,2,none⟩ = some (.string a0_2):=(bC BK199.out 2).trans rfl;have hcz12_3 : w11.cell? ⟨gb199,3,none⟩ = some (.slice A0_3 l0_3.length c0_3):=(bC BK199.out 3).trans rfl;have hcz12_4 : w11.cell? ⟨gb199,4,none⟩ = some (.string a0_4):=(bC BK199.out 4).trans rfl;have hcz12_5 : w11.cell? ⟨gb199,5,none⟩ = some (.string a0_5):=(bC BK199.out 5).trans rfl;have hfz12_0:=bF BK199.out 0;have hfz12_1:=bF BK199.out 1;have hfz12_2:=bF BK199.out 2;have hfz12_3:=bF BK199.out 3;have hfz12_4:=bF BK199.out 4;have hfz12_5:=bF BK199.out 5) | ((with_reducible refine gC (f:=24) rfl ?_);refine goesL_ (some 4) rfl rfl Tryz.func24 (by kernel_rfl) rfl #[.agg #[.int .i64 a0_0,.string a0_1,.string a0_2,.slice A0_3 l0_3.length c0_3,.string a0_4,.string a0_5]] rfl (by (try simp only [List.map_toArray,List.map_cons,List.map_nil]);first | done | rfl | (simp only [List.length_drop,List.length_take];rfl)) ?_;(with_reducible refine (r07_Right.calls k a0_0 a0_1 a0_2 _ _ l0_3 a0_4 a0_5 true _ ?side1 ?side2 A2.out).mono ?_);(case side1=>repeat (first | exact (Kd.C_below HR0_3.out HB.out) | (with_reducible refine Kd.C_alloc ?_ _) | (with_reducible refine Kd.C_drewN ?_ _) | (with_reducible refine Kd.C_drew ?_)));(case side2=>exact HC0_3.out);rintro e w13 ⟨rfl,hb⟩;refine ⟨_,rfl,?_⟩;have n0_:=As.mk (blk_below (g:=gb199) (o:=.cells #[.int .i64 a0_0,.string a0_1,.string a0_2,.slice A0_3 l0_3.length c0_3,.string a0_4,.string a0_5] 34 (0,0)) (by (with_reducible repeat (first | refine kN ?_ _ | refine kD ?_ | refine kA ?_ _));exact BK199.out) hb);have n1_:=As.mk (bS (by repeat (first | (with_reducible first | exact HB.out | apply bA | apply bN | apply bD | refine bT ?_ GE199.out) | exact HB.out)) hb);clear BK199;clear HB;have BK199:=n0_;have HB:=n1_;clear n0_ n1_;(try clear hb);(try clear hb2);(try clear hk);(try clear hi);have hcz14_0 : w13.cell? ⟨gb199,0,none⟩ = some (.int .i64 a0_0):=(bC BK199.out 0).trans rfl;have hcz14_1 : w13.cell? ⟨gb199,1,none⟩ = some (.string a0_1):=(bC BK199.out 1).trans rfl;have hcz14_2 : w13.cell? ⟨gb199,2,none⟩ = some (.string a0_2):=(bC BK199.out 2).trans rfl;have hcz14_3 : w13.cell? ⟨gb199,3,none⟩ = some (.slice A0_3 l0_3.length c0_3):=(bC BK199.out 3).trans rfl;have hcz14_4 : w13.cell? ⟨gb199,4,none⟩ = some (.string a0_4):=(bC BK199.out 4).trans rfl;have hcz14_5 : w13.cell? ⟨gb199,5,none⟩ = some (.string a0_5):=(bC BK199.out 5).trans rfl;have hfz14_0:=bF BK199.out 0;have hfz14_1:=bF BK199.out 1;have hfz14_2:=bF BK199.out 2;have hfz14_3:=bF BK199.out 3;have hfz14_4:=bF BK199.out 4;have hfz14_5:=bF BK199.out 5))
     go_ret
     exact ⟨by first | rfl | (simp [eN,eS] <;> rfl) | (simp [*,eN,eS] <;> rfl),by repeat (first | (with_reducible first | exact HB.out | apply bA | apply bN | apply bD | refine bT ?_ GE199.out) | exact HB.out)⟩
    ·rw [if_neg c10] at H
     exact absurd H (by simp)
   ·rw [if_neg c9] at H
    exact absurd H (by simp)
 ·replace c3:=Bool.eq_false_iff.mpr c3
  subst c3
  have H1 : (some (⟨#[]⟩ : ByteArray)) = some r:=by rw [if_neg (show ¬ (false = true) by decide)] at H;exact H
  clear H
  have H:=H1
  clear H1
  obtain rfl:=Option.some.inj H
  go_enter Tryz.func62,Tryz.ntmps62
  go_wp2_with (first | ((with_reducible refine gate_dst (N:=1) rfl ?_);refine box_event ?hg (N:=1) ?hd (cs:=#[.int .i64 a0_0,.string a0_1,.string a0_2,.slice A0_3 l0_3.length c0_3,.string a0_4,.string a0_5]) (t:=34) ?hr ?_;(case hd=>rfl);(case hg=>rfl);(case hr=>first | (go_simp;done) | (go_simp;rfl));intro gb199 hg w15 hbox hb;have n0_:=As.mk (bS (by repeat (first | (with_reducible first | exact HB.out | apply bA | apply bN | apply bD) | exact HB.out)) hb);have n1_:=As.mk (hbox);have n2_:=As.mk ((by rw [hg];exact (bZ (by repeat (first | (with_reducible first | exact HB.out | apply bA | apply bN | apply bD) | exact HB.out))) : w.heap.size ≤ gb199));have n3_:=As.mk ((by rw [hg];exact (bZ (by repeat (first | (with_reducible first | exact HB.out | apply bA | apply bN | apply bD) | exact HB.out))) : w.heap.size ≤ gb199));clear HB;have HB:=n0_;have BK199:=n1_;have GW199:=n2_;have GE199:=n3_;clear n0_ n1_ n2_ n3_;clear hb hbox hg;have hcz16_0 : w15.cell? ⟨gb199,0,none⟩ = some (.int .i64 a0_0):=(bC BK199.out 0).trans rfl;have hcz16_1 : w15.cell? ⟨gb199,1,none⟩ = some (.string a0_1):=(bC BK199.out 1).trans rfl;have hcz16_2 : w15.cell? ⟨gb199,2,none⟩ = some (.string a0_2):=(bC BK199.out 2).trans rfl;have hcz16_3 : w15.cell? ⟨gb199,3,none⟩ = some (.slice A0_3 l0_3.length c0_3):=(bC BK199.out 3).trans rfl;have hcz16_4 : w15.cell? ⟨gb199,4,none⟩ = some (.string a0_4):=(bC BK199.out 4).trans rfl;have hcz16_5 : w15.cell? ⟨gb199,5,none⟩ = some (.string a0_5):=(bC BK199.out 5).trans rfl;have hfz16_0:=bF BK199.out 0;have hfz16_1:=bF BK199.out 1;have hfz16_2:=bF BK199.out 2;have hfz16_3:=bF BK199.out 3;have hfz16_4:=bF BK199.out 4;have hfz16_5:=bF BK199.out 5) | ((with_reducible refine gC (f:=24) rfl ?_);refine goesL_ (some 4) rfl rfl Tryz.func24 (by kernel_rfl) rfl #[.agg #[.int .i64 a0_0,.string a0_1,.string a0_2,.slice A0_3 l0_3.length c0_3,.string a0_4,.string a0_5]] rfl (by (try simp only [List.map_toArray,List.map_cons,List.map_nil]);first | done | rfl | (simp only [List.length_drop,List.length_take];rfl)) ?_;(with_reducible refine (r07_Right.calls k a0_0 a0_1 a0_2 _ _ l0_3 a0_4 a0_5 false _ ?side1 ?side2 A2.out).mono ?_);(case side1=>repeat (first | exact (Kd.C_below HR0_3.out HB.out) | (with_reducible refine Kd.C_alloc ?_ _) | (with_reducible refine Kd.C_drewN ?_ _) | (with_reducible refine Kd.C_drew ?_)));(case side2=>exact HC0_3.out);rintro e w17 ⟨rfl,hb⟩;refine ⟨_,rfl,?_⟩;have n0_:=As.mk (blk_below (g:=gb199) (o:=.cells #[.int .i64 a0_0,.string a0_1,.string a0_2,.slice A0_3 l0_3.length c0_3,.string a0_4,.string a0_5] 34 (0,0)) (by (with_reducible repeat (first | refine kN ?_ _ | refine kD ?_ | refine kA ?_ _));exact BK199.out) hb);have n1_:=As.mk (bS (by repeat (first | (with_reducible first | exact HB.out | apply bA | apply bN | apply bD | refine bT ?_ GE199.out) | exact HB.out)) hb);clear BK199;clear HB;have BK199:=n0_;have HB:=n1_;clear n0_ n1_;(try clear hb);(try clear hb2);(try clear hk);(try clear hi)))
  go_ret
  exact ⟨by first | rfl | (simp [eN,eS] <;> rfl) | (simp [*,eN,eS] <;> rfl),by repeat (first | (with_reducible first | exact HB.out | apply bA | apply bN | apply bD | refine bT ?_ GE199.out) | exact HB.out)⟩
/-! ### r08_Find: function 33 -/
/-! ### r08_New: function 18 -/
end Go.Proofs.YtmlebgikdegjjaaGreatDoor.PAll
