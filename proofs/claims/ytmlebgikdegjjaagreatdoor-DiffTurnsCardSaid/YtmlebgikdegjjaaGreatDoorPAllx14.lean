import Derived.Test.YtmlebgikdegjjaaGreatDoorPAllx0
import Derived.Test.YtmlebgikdegjjaaGreatDoorPAllx3
import Derived.Test.YtmlebgikdegjjaaGreatDoorPAllx8
set_option maxHeartbeats 8000000
set_option maxRecDepth 100000
namespace Go.Proofs.YtmlebgikdegjjaaGreatDoor.PAll
open Go.RowKit Go.Proofs.YtmlebgikdegjjaaGreatDoorW.PrintWords Go.Proofs.YtmlebgikdegjjaaGreatDoorW.PrintLast Go.Proofs.YtmlebgikdegjjaaGreatDoorW.PrintMore
attribute [local go_sem] max2_int min2_int max_two min_two max_three min_three max_four min_four   -- for this text's walks alone
set_option linter.unusedVariables false
set_option linter.unusedSimpArgs false
/-! ### r09_Small: function 27 -/
def r09_Small.l0 : Nat → List (S82) → Int → Option (Bool)
 | 0,_,_=>none
 | k + 1,x0,x3=>if x3 < (x0.length : Int) then (if 0 ≤ x3 then (if (((rd_T82 x0 x3).f0).size : Int) > 700 then (some false) else ((r07_Few.f k ((rd_T82 x0 x3).f1) 3).bind fun t367=>(if t367 = true then ((r07_Few.f k ((rd_T82 x0 x3).f2) 3).bind fun t369=>(if t369 = true then (r09_Small.l0 k x0 (wrap64 (x3 + 1))) else (some false))) else (some false)))) else (none)) else (some true)
def r09_Small.f (k : Nat) (l0 : List (S82)) : Option (Bool):=if (l0.length : Int) > 12 then (some false) else (r09_Small.l0 k l0 0)
theorem r09_Small.mono_l : ∀ k,(∀ y0 y1,LeO (r09_Small.l0 k y0 y1) (r09_Small.l0 (k + 1) y0 y1))
 | 0=>fun _ _ r h=>by simp [r09_Small.l0] at h
 | k + 1=>by
  have ih0:=r09_Small.mono_l k
  ·intro y0 y1
   unfold r09_Small.l0
   repeat' first
   | (with_reducible exact ih0 _ _)
   | (with_reducible exact r07_Few.mono _ _ _)
   | (with_reducible exact LeO.refl _)
   | (with_reducible exact LeO.none _)
   | (with_reducible refine LeO.ite ?_ ?_)
   | (with_reducible refine LeO.bind ?_ (fun _=>?_))
   | exact ih0 _ _
   | exact r07_Few.mono _ _ _
   | exact LeO.none _
   | refine LeO.ite ?_ ?_
   | refine LeO.bind ?_ (fun _=>?_)
theorem r09_Small.mono : ∀ a0 k,LeO (r09_Small.f k a0) (r09_Small.f (k + 1) a0):=by
 intro a0 k
 have ih0:=r09_Small.mono_l k
 unfold r09_Small.f
 repeat' first
   | (with_reducible exact ih0 _ _)
   | (with_reducible exact r07_Few.mono _ _ _)
   | (with_reducible exact LeO.refl _)
   | (with_reducible exact LeO.none _)
   | (with_reducible refine LeO.ite ?_ ?_)
   | (with_reducible refine LeO.bind ?_ (fun _=>?_))
   | exact ih0 _ _
   | exact r07_Few.mono _ _ _
   | exact LeO.none _
   | refine LeO.ite ?_ ?_
   | refine LeO.bind ?_ (fun _=>?_)
theorem r09_Small.calls (k : Nat) (A0 : Option Addr) (c0 : Nat) (l0 : List (S82)) (r : Bool) (w : World) (hr0 : Kd.C k82 w A0 l0.length l0) (hc0 : l0.length ≤ c0) (h : r09_Small.f k l0 = some r) :
  Calls Tryz.prog 27 #[.slice A0 l0.length c0] w fun e w'=>e = .returned (.bool r) ∧ Below w.heap.size w w':=by
 have HR0:=As.mk hr0
 have HC0:=As.mk hc0
 clear hr0 hc0
 have HB:=As.mk (Below.refl w.heap.size w)
 have H : (if (l0.length : Int) > 12 then (some false) else (r09_Small.l0 k l0 0)) = some r:=h
 clear h
 by_cases c2 : (l0.length : Int) > 12
 ·rw [if_pos c2] at H
  have c2b0 : decide (12 < (l0.length : Int)) = true:=decide_eq_true c2
  have c2b1 : decide (12 < l0.length) = true:=decide_eq_true (by omega)
  clear c2
  obtain rfl:=Option.some.inj H
  go_enter Tryz.func27,Tryz.ntmps27
  go_wp2
  go_ret
  exact ⟨by first | rfl | (simp [eN,eS] <;> rfl) | (simp [*,eN,eS] <;> rfl),by repeat (first | (with_reducible first | exact HB.out | apply bA | apply bN | apply bD) | exact HB.out)⟩
 ·rw [if_neg c2] at H
  have c2b0 : decide (12 < (l0.length : Int)) = false:=decide_eq_false c2
  have c2b1 : decide (12 < l0.length) = false:=decide_eq_false (by omega)
  clear c2
  have H':=As.mk H
  clear H
  go_enter Tryz.func27,Tryz.ntmps27
  go_wp2
  go_loopg [3] k (fun kq v3 w'=>∃ (x3_1 : Int),v3 = .int .i64 x3_1 ∧ As (r09_Small.l0 kq l0 x3_1 = some r) ∧ As (kq ≤ k) ∧ As (Below w.heap.size w w'))
  case atStart=>exact ⟨(0),(by first | rfl | (simp;done) | (simp [*];done)),H',⟨Nat.le_refl _⟩,⟨by repeat (first | (with_reducible first | exact HB.out | apply bA | apply bN | apply bD) | exact HB.out)⟩⟩
  case round =>
   clear H'
   try clear c2
   try clear c2b0
   try clear c2b1
   try clear p2
   obtain ⟨x3_1,rfl,HA,HK1,HB⟩:=hrel
   cases gk with
   | zero=>exact absurd HA.out (by simp [r09_Small.l0])
   | succ k1 =>
    have H:=HA.out
    clear HA
    simp only [r09_Small.l0] at H
    by_cases c3 : x3_1 < (l0.length : Int)
    ·rw [if_pos c3] at H
     have c3b0 : decide (x3_1 < (l0.length : Int)) = true:=decide_eq_true c3
     clear c3
     by_cases c4 : 0 ≤ x3_1
     ·rw [if_pos c4] at H
      have c4b0 : decide (0 ≤ x3_1) = true:=decide_eq_true c4
      clear c4
      by_cases c5 : (((rd_T82 l0 x3_1).f0).size : Int) > 700
      ·rw [if_pos c5] at H
       have c5b0 : decide (700 < (((rd_T82 l0 x3_1).f0).size : Int)) = true:=decide_eq_true c5
       have c5b1 : decide (700 < ((rd_T82 l0 x3_1).f0).size) = true:=decide_eq_true (by omega)
       clear c5
       obtain rfl:=Option.some.inj H
       have p365 : 0 ≤ (x3_1 : Int):=of_decide_eq_true (by first | (with_reducible assumption) | assumption)
       have q365 : x3_1 < (l0.length : Int):=of_decide_eq_true (by first | (with_reducible assumption) | assumption)
       obtain ⟨ad365,A365_1,c365_1,A365_2,c365_2,e365,hx365_0,hx365_1,hx365_2,hl365_1,hi365_1,hl365_2,hi365_2⟩:=at_T82 HR0.out x3_1 p365 q365
       cases e365
       replace hx365_0:=(HB.out.cell (World.block_lt_of_cell? w _ hx365_0)).trans hx365_0
       replace hx365_1:=(HB.out.cell (World.block_lt_of_cell? w _ hx365_1)).trans hx365_1
       replace hx365_2:=(HB.out.cell (World.block_lt_of_cell? w _ hx365_2)).trans hx365_2
       have HR365_1:=As.mk hi365_1
       have HC365_1:=As.mk hl365_1
       clear hi365_1 hl365_1
       have HR365_2:=As.mk hi365_2
       have HC365_2:=As.mk hl365_2
       clear hi365_2 hl365_2
       replace p365:=eq_true p365
       replace q365:=eq_true q365
       go_wp2
       go_ret
       exact ⟨by first | rfl | (simp [eN,eS] <;> rfl) | (simp [*,eN,eS] <;> rfl),by repeat (first | (with_reducible first | exact HB.out | apply bA | apply bN | apply bD) | exact HB.out)⟩
      ·rw [if_neg c5] at H
       have c5b0 : decide (700 < (((rd_T82 l0 x3_1).f0).size : Int)) = false:=decide_eq_false c5
       have c5b1 : decide (700 < ((rd_T82 l0 x3_1).f0).size) = false:=decide_eq_false (by omega)
       clear c5
       replace H:=Option.bind_eq_some_iff.mp H
       obtain ⟨t367,A60,H⟩:=H
       replace H : (if t367 = true then ((r07_Few.f k1 ((rd_T82 l0 x3_1).f2) 3).bind fun t369=>(if t369 = true then (r09_Small.l0 k1 l0 (wrap64 (x3_1 + 1))) else (some false))) else (some false)) = some r:=H
       have A6:=As.mk A60
       clear A60
       by_cases c7 : t367 = true
       ·subst c7
        have H1 : ((r07_Few.f k1 ((rd_T82 l0 x3_1).f2) 3).bind fun t369=>(if t369 = true then (r09_Small.l0 k1 l0 (wrap64 (x3_1 + 1))) else (some false))) = some r:=by rw [if_pos rfl] at H;exact H
        clear H
        have H:=H1
        clear H1
        replace H:=Option.bind_eq_some_iff.mp H
        obtain ⟨t369,A80,H⟩:=H
        replace H : (if t369 = true then (r09_Small.l0 k1 l0 (wrap64 (x3_1 + 1))) else (some false)) = some r:=H
        have A8:=As.mk A80
        clear A80
        by_cases c9 : t369 = true
        ·subst c9
         have H1 : (r09_Small.l0 k1 l0 (wrap64 (x3_1 + 1))) = some r:=by rw [if_pos rfl] at H;exact H
         clear H
         have H:=H1
         clear H1
         have H':=As.mk H
         clear H
         have p365 : 0 ≤ (x3_1 : Int):=of_decide_eq_true (by first | (with_reducible assumption) | assumption)
         have q365 : x3_1 < (l0.length : Int):=of_decide_eq_true (by first | (with_reducible assumption) | assumption)
         obtain ⟨ad365,A365_1,c365_1,A365_2,c365_2,e365,hx365_0,hx365_1,hx365_2,hl365_1,hi365_1,hl365_2,hi365_2⟩:=at_T82 HR0.out x3_1 p365 q365
         cases e365
         replace hx365_0:=(HB.out.cell (World.block_lt_of_cell? w _ hx365_0)).trans hx365_0
         replace hx365_1:=(HB.out.cell (World.block_lt_of_cell? w _ hx365_1)).trans hx365_1
         replace hx365_2:=(HB.out.cell (World.block_lt_of_cell? w _ hx365_2)).trans hx365_2
         have HR365_1:=As.mk hi365_1
         have HC365_1:=As.mk hl365_1
         clear hi365_1 hl365_1
         have HR365_2:=As.mk hi365_2
         have HC365_2:=As.mk hl365_2
         clear hi365_2 hl365_2
         replace p365:=eq_true p365
         replace q365:=eq_true q365
         have p366 : 0 ≤ (x3_1 : Int):=of_decide_eq_true (by first | (with_reducible assumption) | assumption)
         have q366 : x3_1 < (l0.length : Int):=of_decide_eq_true (by first | (with_reducible assumption) | assumption)
         obtain ⟨ad366,A366_1,c366_1,A366_2,c366_2,e366,hx366_0,hx366_1,hx366_2,hl366_1,hi366_1,hl366_2,hi366_2⟩:=at_T82 HR0.out x3_1 p366 q366
         obtain rfl : ad365 = ad366:=(by injection e366)
         replace hx366_0:=(HB.out.cell (World.block_lt_of_cell? w _ hx366_0)).trans hx366_0
         replace hx366_1:=(HB.out.cell (World.block_lt_of_cell? w _ hx366_1)).trans hx366_1
         replace hx366_2:=(HB.out.cell (World.block_lt_of_cell? w _ hx366_2)).trans hx366_2
         have HR366_1:=As.mk hi366_1
         have HC366_1:=As.mk hl366_1
         clear hi366_1 hl366_1
         have HR366_2:=As.mk hi366_2
         have HC366_2:=As.mk hl366_2
         clear hi366_2 hl366_2
         replace p366:=eq_true p366
         replace q366:=eq_true q366
         have ea_:=Option.some.inj (hx365_1.symm.trans hx366_1)
         injection ea_ with ea_ en_ ec_
         subst ea_
         subst ec_
         clear en_
         have ea_:=Option.some.inj (hx365_2.symm.trans hx366_2)
         injection ea_ with ea_ en_ ec_
         subst ea_
         subst ec_
         clear en_
         have tk_16_0 : True:=trivial
         go_wp2_with (first | (go_at_call 16;have t_:=tk_16_0;clear t_;(with_reducible refine (r07_Few.calls k1 _ _ ((rd_T82 l0 x3_1).f1) 3 true _ ?side1 ?side2 A6.out).mono ?_);(case side1=>repeat (first | exact (Kd.C_below HR366_1.out HB.out) | (with_reducible refine Kd.C_alloc ?_ _) | (with_reducible refine Kd.C_drewN ?_ _) | (with_reducible refine Kd.C_drew ?_)));(case side2=>exact HC366_1.out);rintro e w10 ⟨rfl,hb⟩;have n0_:=As.mk (bS (by repeat (first | (with_reducible first | exact HB.out | apply bA | apply bN | apply bD) | exact HB.out)) hb);clear HB;have HB:=n0_;clear n0_;(try clear hb);(try clear hb2);(try clear hk);(try clear hi);have p368 : 0 ≤ (x3_1 : Int):=of_decide_eq_true (by first | (with_reducible assumption) | assumption);have q368 : x3_1 < (l0.length : Int):=of_decide_eq_true (by first | (with_reducible assumption) | assumption);obtain ⟨ad368,A368_1,c368_1,A368_2,c368_2,e368,hx368_0,hx368_1,hx368_2,hl368_1,hi368_1,hl368_2,hi368_2⟩:=at_T82 HR0.out x3_1 p368 q368;obtain rfl : ad365 = ad368:=(by injection e368);replace hx368_0:=(HB.out.cell (World.block_lt_of_cell? w _ hx368_0)).trans hx368_0;replace hx368_1:=(HB.out.cell (World.block_lt_of_cell? w _ hx368_1)).trans hx368_1;replace hx368_2:=(HB.out.cell (World.block_lt_of_cell? w _ hx368_2)).trans hx368_2;have HR368_1:=As.mk hi368_1;have HC368_1:=As.mk hl368_1;clear hi368_1 hl368_1;have HR368_2:=As.mk hi368_2;have HC368_2:=As.mk hl368_2;clear hi368_2 hl368_2;replace p368:=eq_true p368;replace q368:=eq_true q368;clear tk_16_0) | (go_at_call 16;(with_reducible refine (r07_Few.calls k1 _ _ ((rd_T82 l0 x3_1).f2) 3 true _ ?side1 ?side2 A8.out).mono ?_);(case side1=>repeat (first | exact (Kd.C_below HR368_2.out HB.out) | (with_reducible refine Kd.C_alloc ?_ _) | (with_reducible refine Kd.C_drewN ?_ _) | (with_reducible refine Kd.C_drew ?_)));(case side2=>exact HC368_2.out);rintro e w11 ⟨rfl,hb⟩;have n0_:=As.mk (bS (by repeat (first | (with_reducible first | exact HB.out | apply bA | apply bN | apply bD) | exact HB.out)) hb);clear HB;have HB:=n0_;clear n0_;(try clear hb);(try clear hb2);(try clear hk);(try clear hi)))
         go_roundg k1
         case measure=>have:=HK1.out;omega
         case rel=>exact ⟨(wrap64 (x3_1 + 1)),(by first | rfl | (simp;done) | (simp [*];done)),H',⟨by have:=HK1.out;omega⟩,⟨by repeat (first | (with_reducible first | exact HB.out | apply bA | apply bN | apply bD) | exact HB.out)⟩⟩
        ·replace c9:=Bool.eq_false_iff.mpr c9
         subst c9
         have H1 : (some false) = some r:=by rw [if_neg (show ¬ (false = true) by decide)] at H;exact H
         clear H
         have H:=H1
         clear H1
         obtain rfl:=Option.some.inj H
         have p365 : 0 ≤ (x3_1 : Int):=of_decide_eq_true (by first | (with_reducible assumption) | assumption)
         have q365 : x3_1 < (l0.length : Int):=of_decide_eq_true (by first | (with_reducible assumption) | assumption)
         obtain ⟨ad365,A365_1,c365_1,A365_2,c365_2,e365,hx365_0,hx365_1,hx365_2,hl365_1,hi365_1,hl365_2,hi365_2⟩:=at_T82 HR0.out x3_1 p365 q365
         cases e365
         replace hx365_0:=(HB.out.cell (World.block_lt_of_cell? w _ hx365_0)).trans hx365_0
         replace hx365_1:=(HB.out.cell (World.block_lt_of_cell? w _ hx365_1)).trans hx365_1
         replace hx365_2:=(HB.out.cell (World.block_lt_of_cell? w _ hx365_2)).trans hx365_2
         have HR365_1:=As.mk hi365_1
         have HC365_1:=As.mk hl365_1
         clear hi365_1 hl365_1
         have HR365_2:=As.mk hi365_2
         have HC365_2:=As.mk hl365_2
         clear hi365_2 hl365_2
         replace p365:=eq_true p365
         replace q365:=eq_true q365
         have p366 : 0 ≤ (x3_1 : Int):=of_decide_eq_true (by first | (with_reducible assumption) | assumption)
         have q366 : x3_1 < (l0.length : Int):=of_decide_eq_true (by first | (with_reducible assumption) | assumption)
         obtain ⟨ad366,A366_1,c366_1,A366_2,c366_2,e366,hx366_0,hx366_1,hx366_2,hl366_1,hi366_1,hl366_2,hi366_2⟩:=at_T82 HR0.out x3_1 p366 q366
         obtain rfl : ad365 = ad366:=(by injection e366)
         replace hx366_0:=(HB.out.cell (World.block_lt_of_cell? w _ hx366_0)).trans hx366_0
         replace hx366_1:=(HB.out.cell (World.block_lt_of_cell? w _ hx366_1)).trans hx366_1
         replace hx366_2:=(HB.out.cell (World.block_lt_of_cell? w _ hx366_2)).trans hx366_2
         have HR366_1:=As.mk hi366_1
         have HC366_1:=As.mk hl366_1
         clear hi366_1 hl366_1
         have HR366_2:=As.mk hi366_2
         have HC366_2:=As.mk hl366_2
         clear hi366_2 hl366_2
         replace p366:=eq_true p366
         replace q366:=eq_true q366
         have ea_:=Option.some.inj (hx365_1.symm.trans hx366_1)
         injection ea_ with ea_ en_ ec_
         subst ea_
         subst ec_
         clear en_
         have ea_:=Option.some.inj (hx365_2.symm.trans hx366_2)
         injection ea_ with ea_ en_ ec_
         subst ea_
         subst ec_
         clear en_
         have tk_16_0 : True:=trivial
         go_wp2_with (first | (go_at_call 16;have t_:=tk_16_0;clear t_;(with_reducible refine (r07_Few.calls k1 _ _ ((rd_T82 l0 x3_1).f1) 3 true _ ?side1 ?side2 A6.out).mono ?_);(case side1=>repeat (first | exact (Kd.C_below HR366_1.out HB.out) | (with_reducible refine Kd.C_alloc ?_ _) | (with_reducible refine Kd.C_drewN ?_ _) | (with_reducible refine Kd.C_drew ?_)));(case side2=>exact HC366_1.out);rintro e w12 ⟨rfl,hb⟩;have n0_:=As.mk (bS (by repeat (first | (with_reducible first | exact HB.out | apply bA | apply bN | apply bD) | exact HB.out)) hb);clear HB;have HB:=n0_;clear n0_;(try clear hb);(try clear hb2);(try clear hk);(try clear hi);have p368 : 0 ≤ (x3_1 : Int):=of_decide_eq_true (by first | (with_reducible assumption) | assumption);have q368 : x3_1 < (l0.length : Int):=of_decide_eq_true (by first | (with_reducible assumption) | assumption);obtain ⟨ad368,A368_1,c368_1,A368_2,c368_2,e368,hx368_0,hx368_1,hx368_2,hl368_1,hi368_1,hl368_2,hi368_2⟩:=at_T82 HR0.out x3_1 p368 q368;obtain rfl : ad365 = ad368:=(by injection e368);replace hx368_0:=(HB.out.cell (World.block_lt_of_cell? w _ hx368_0)).trans hx368_0;replace hx368_1:=(HB.out.cell (World.block_lt_of_cell? w _ hx368_1)).trans hx368_1;replace hx368_2:=(HB.out.cell (World.block_lt_of_cell? w _ hx368_2)).trans hx368_2;have HR368_1:=As.mk hi368_1;have HC368_1:=As.mk hl368_1;clear hi368_1 hl368_1;have HR368_2:=As.mk hi368_2;have HC368_2:=As.mk hl368_2;clear hi368_2 hl368_2;replace p368:=eq_true p368;replace q368:=eq_true q368;clear tk_16_0) | (go_at_call 16;(with_reducible refine (r07_Few.calls k1 _ _ ((rd_T82 l0 x3_1).f2) 3 false _ ?side1 ?side2 A8.out).mono ?_);(case side1=>repeat (first | exact (Kd.C_below HR368_2.out HB.out) | (with_reducible refine Kd.C_alloc ?_ _) | (with_reducible refine Kd.C_drewN ?_ _) | (with_reducible refine Kd.C_drew ?_)));(case side2=>exact HC368_2.out);rintro e w13 ⟨rfl,hb⟩;have n0_:=As.mk (bS (by repeat (first | (with_reducible first | exact HB.out | apply bA | apply bN | apply bD) | exact HB.out)) hb);clear HB;have HB:=n0_;clear n0_;(try clear hb);(try clear hb2);(try clear hk);(try clear hi)))
         go_ret
         exact ⟨by first | rfl | (simp [eN,eS] <;> rfl) | (simp [*,eN,eS] <;> rfl),by repeat (first | (with_reducible first | exact HB.out | apply bA | apply bN | apply bD) | exact HB.out)⟩
       ·replace c7:=Bool.eq_false_iff.mpr c7
        subst c7
        have H1 : (some false) = some r:=by rw [if_neg (show ¬ (false = true) by decide)] at H;exact H
        clear H
        have H:=H1
        clear H1
        obtain rfl:=Option.some.inj H
        have p365 : 0 ≤ (x3_1 : Int):=of_decide_eq_true (by first | (with_reducible assumption) | assumption)
        have q365 : x3_1 < (l0.length : Int):=of_decide_eq_true (by first | (with_reducible assumption) | assumption)
        obtain ⟨ad365,A365_1,c365_1,A365_2,c365_2,e365,hx365_0,hx365_1,hx365_2,hl365_1,hi365_1,hl365_2,hi365_2⟩:=at_T82 HR0.out x3_1 p365 q365
        cases e365
        replace hx365_0:=(HB.out.cell (World.block_lt_of_cell? w _ hx365_0)).trans hx365_0
        replace hx365_1:=(HB.out.cell (World.block_lt_of_cell? w _ hx365_1)).trans hx365_1
        replace hx365_2:=(HB.out.cell (World.block_lt_of_cell? w _ hx365_2)).trans hx365_2
        have HR365_1:=As.mk hi365_1
        have HC365_1:=As.mk hl365_1
        clear hi365_1 hl365_1
        have HR365_2:=As.mk hi365_2
        have HC365_2:=As.mk hl365_2
        clear hi365_2 hl365_2
        replace p365:=eq_true p365
        replace q365:=eq_true q365
        have p366 : 0 ≤ (x3_1 : Int):=of_decide_eq_true (by first | (with_reducible assumption) | assumption)
        have q366 : x3_1 < (l0.length : Int):=of_decide_eq_true (by first | (with_reducible assumption) | assumption)
        obtain ⟨ad366,A366_1,c366_1,A366_2,c366_2,e366,hx366_0,hx366_1,hx366_2,hl366_1,hi366_1,hl366_2,hi366_2⟩:=at_T82 HR0.out x3_1 p366 q366
        obtain rfl : ad365 = ad366:=(by injection e366)
        replace hx366_0:=(HB.out.cell (World.block_lt_of_cell? w _ hx366_0)).trans hx366_0
        replace hx366_1:=(HB.out.cell (World.block_lt_of_cell? w _ hx366_1)).trans hx366_1
        replace hx366_2:=(HB.out.cell (World.block_lt_of_cell? w _ hx366_2)).trans hx366_2
        have HR366_1:=As.mk hi366_1
        have HC366_1:=As.mk hl366_1
        clear hi366_1 hl366_1
        have HR366_2:=As.mk hi366_2
        have HC366_2:=As.mk hl366_2
        clear hi366_2 hl366_2
        replace p366:=eq_true p366
        replace q366:=eq_true q366
        have ea_:=Option.some.inj (hx365_1.symm.trans hx366_1)
        injection ea_ with ea_ en_ ec_
        subst ea_
        subst ec_
        clear en_
        have ea_:=Option.some.inj (hx365_2.symm.trans hx366_2)
        injection ea_ with ea_ en_ ec_
        subst ea_
        subst ec_
        clear en_
        go_wp2_with (first | (go_at_call 16;(with_reducible refine (r07_Few.calls k1 _ _ ((rd_T82 l0 x3_1).f1) 3 false _ ?side1 ?side2 A6.out).mono ?_);(case side1=>repeat (first | exact (Kd.C_below HR366_1.out HB.out) | (with_reducible refine Kd.C_alloc ?_ _) | (with_reducible refine Kd.C_drewN ?_ _) | (with_reducible refine Kd.C_drew ?_)));(case side2=>exact HC366_1.out);rintro e w14 ⟨rfl,hb⟩;have n0_:=As.mk (bS (by repeat (first | (with_reducible first | exact HB.out | apply bA | apply bN | apply bD) | exact HB.out)) hb);clear HB;have HB:=n0_;clear n0_;(try clear hb);(try clear hb2);(try clear hk);(try clear hi)))
        go_ret
        exact ⟨by first | rfl | (simp [eN,eS] <;> rfl) | (simp [*,eN,eS] <;> rfl),by repeat (first | (with_reducible first | exact HB.out | apply bA | apply bN | apply bD) | exact HB.out)⟩
     ·rw [if_neg c4] at H
      exact absurd H (by simp)
    ·rw [if_neg c3] at H
     have c3b0 : decide (x3_1 < (l0.length : Int)) = false:=decide_eq_false c3
     clear c3
     obtain rfl:=Option.some.inj H
     go_wp2
     go_ret
     exact ⟨by first | rfl | (simp [eN,eS] <;> rfl) | (simp [*,eN,eS] <;> rfl),by repeat (first | (with_reducible first | exact HB.out | apply bA | apply bN | apply bD) | exact HB.out)⟩
/-! ### r07_SameAll: function 47 -/
def r07_SameAll.l0 : Nat → List (S34) → List (S34) → Int → Option (Bool)
 | 0,_,_,_=>none
 | k + 1,x0,x1,x5=>if x5 < (x0.length : Int) then (if 0 ≤ x5 then (if x5 < (x1.length : Int) then ((r07_Same.f k ((rd_T34 x0 x5).f0) ((rd_T34 x0 x5).f1) ((rd_T34 x0 x5).f2) ((rd_T34 x0 x5).f3) ((rd_T34 x0 x5).f4) ((rd_T34 x0 x5).f5) ((rd_T34 x1 x5).f0) ((rd_T34 x1 x5).f1) ((rd_T34 x1 x5).f2) ((rd_T34 x1 x5).f3) ((rd_T34 x1 x5).f4) ((rd_T34 x1 x5).f5)).bind fun t374=>(if t374 = true then (r07_SameAll.l0 k x0 x1 (wrap64 (x5 + 1))) else (some false))) else (none)) else (none)) else (some true)
def r07_SameAll.f (k : Nat) (l0 : List (S34)) (l1 : List (S34)) : Option (Bool):=if (l0.length : Int) = (l1.length : Int) then (r07_SameAll.l0 k l0 l1 0) else (some false)
theorem r07_SameAll.mono_l : ∀ k,(∀ y0 y1 y2,LeO (r07_SameAll.l0 k y0 y1 y2) (r07_SameAll.l0 (k + 1) y0 y1 y2))
 | 0=>fun _ _ _ r h=>by simp [r07_SameAll.l0] at h
 | k + 1=>by
  have ih0:=r07_SameAll.mono_l k
  ·intro y0 y1 y2
   unfold r07_SameAll.l0
   repeat' first
   | (with_reducible exact ih0 _ _ _)
   | (with_reducible exact r07_Same.mono _ _ _ _ _ _ _ _ _ _ _ _ _)
   | (with_reducible exact LeO.refl _)
   | (with_reducible exact LeO.none _)
   | (with_reducible refine LeO.ite ?_ ?_)
   | (with_reducible refine LeO.bind ?_ (fun _=>?_))
   | exact ih0 _ _ _
   | exact r07_Same.mono _ _ _ _ _ _ _ _ _ _ _ _ _
   | exact LeO.none _
   | refine LeO.ite ?_ ?_
   | refine LeO.bind ?_ (fun _=>?_)
theorem r07_SameAll.mono : ∀ a0 a1 k,LeO (r07_SameAll.f k a0 a1) (r07_SameAll.f (k + 1) a0 a1):=by
 intro a0 a1 k
 have ih0:=r07_SameAll.mono_l k
 unfold r07_SameAll.f
 repeat' first
   | (with_reducible exact ih0 _ _ _)
   | (with_reducible exact r07_Same.mono _ _ _ _ _ _ _ _ _ _ _ _ _)
   | (with_reducible exact LeO.refl _)
   | (with_reducible exact LeO.none _)
   | (with_reducible refine LeO.ite ?_ ?_)
   | (with_reducible refine LeO.bind ?_ (fun _=>?_))
   | exact ih0 _ _ _
   | exact r07_Same.mono _ _ _ _ _ _ _ _ _ _ _ _ _
   | exact LeO.none _
   | refine LeO.ite ?_ ?_
   | refine LeO.bind ?_ (fun _=>?_)
def r07_SameAll.T6 : Bool × List (List Nat × List Nat):=(true,[([],[]),([],[]),([0,1],[0,1]),([2],[2]),([],[]),([],[]),([4,5],[4,5]),([6],[6]),([3,7],[3,7]),([8],[8])])
def r07_SameAll.B6 : List Nat:=[0,0,3,7,0,0,48,112,255,511]
theorem r07_SameAll.tab6 : rtab .any (opsOf Tryz.f47 6) = r07_SameAll.T6:=by kernel_rfl
theorem r07_SameAll.bits6 : waitsOk r07_SameAll.T6.2 r07_SameAll.B6 = true:=by kernel_rfl
theorem r07_SameAll.calls (k : Nat) (A0 : Option Addr) (c0 : Nat) (l0 : List (S34)) (A1 : Option Addr) (c1 : Nat) (l1 : List (S34)) (r : Bool) (w : World) (hr0 : Kd.C k34 w A0 l0.length l0) (hc0 : l0.length ≤ c0) (hr1 : Kd.C k34 w A1 l1.length l1) (hc1 : l1.length ≤ c1) (h : r07_SameAll.f k l0 l1 = some r) :
  Calls Tryz.prog 47 #[.slice A0 l0.length c0,.slice A1 l1.length c1] w fun e w'=>e = .returned (.bool r) ∧ Below w.heap.size w w':=by
 have hu34:=Tryz.underlying34
 have HR0:=As.mk hr0
 have HC0:=As.mk hc0
 clear hr0 hc0
 have HR1:=As.mk hr1
 have HC1:=As.mk hc1
 clear hr1 hc1
 have HB:=As.mk (Below.refl w.heap.size w)
 have H : (if (l0.length : Int) = (l1.length : Int) then (r07_SameAll.l0 k l0 l1 0) else (some false)) = some r:=h
 clear h
 by_cases c3 : (l0.length : Int) = (l1.length : Int)
 ·rw [if_pos c3] at H
  have c3b0 : ((l0.length : Int) == (l1.length : Int)) = true:=beq_iff_eq.mpr c3
  have c3b1 : ((l0.length : Int) != (l1.length : Int)) = false:=bne_eq_false_iff_eq.mpr c3
  have c3b2 : (l0.length == l1.length) = true:=by first | simpa using c3 | (simp at c3 ⊢;omega)
  clear c3
  have H':=As.mk H
  clear H
  go_enter Tryz.func47,Tryz.ntmps47
  go_wp2
  go_loopg [5] k (fun kq v5 w'=>∃ (x5_1 : Int),v5 = .int .i64 x5_1 ∧ As (r07_SameAll.l0 kq l0 l1 x5_1 = some r) ∧ As (kq ≤ k) ∧ As (Below w.heap.size w w'))
  case atStart=>exact ⟨(0),(by first | rfl | (simp;done) | (simp [*];done)),H',⟨Nat.le_refl _⟩,⟨by repeat (first | (with_reducible first | exact HB.out | apply bA | apply bN | apply bD) | exact HB.out)⟩⟩
  case round =>
   clear H'
   try clear c1
   try clear p2
   try clear c3
   try clear c3b0
   try clear c3b1
   try clear c3b2
   obtain ⟨x5_1,rfl,HA,HK1,HB⟩:=hrel
   cases gk with
   | zero=>exact absurd HA.out (by simp [r07_SameAll.l0])
   | succ k1 =>
    have H:=HA.out
    clear HA
    simp only [r07_SameAll.l0] at H
    by_cases c4 : x5_1 < (l0.length : Int)
    ·rw [if_pos c4] at H
     have c4b0 : decide (x5_1 < (l0.length : Int)) = true:=decide_eq_true c4
     clear c4
     by_cases c5 : 0 ≤ x5_1
     ·rw [if_pos c5] at H
      have c5b0 : decide (0 ≤ x5_1) = true:=decide_eq_true c5
      clear c5
      by_cases c6 : x5_1 < (l1.length : Int)
      ·rw [if_pos c6] at H
       have c6b0 : decide (x5_1 < (l1.length : Int)) = true:=decide_eq_true c6
       clear c6
       replace H:=Option.bind_eq_some_iff.mp H
       obtain ⟨t374,A70,H⟩:=H
       replace H : (if t374 = true then (r07_SameAll.l0 k1 l0 l1 (wrap64 (x5_1 + 1))) else (some false)) = some r:=H
       have A7:=As.mk A70
       clear A70
       by_cases c8 : t374 = true
       ·subst c8
        have H1 : (r07_SameAll.l0 k1 l0 l1 (wrap64 (x5_1 + 1))) = some r:=by rw [if_pos rfl] at H;exact H
        clear H
        have H:=H1
        clear H1
        have H':=As.mk H
        clear H
        try go_wp2
        have n0_:=As.mk (bD HB.out)
        clear HB
        have HB:=n0_
        clear n0_
        have p372 : 0 ≤ (x5_1 : Int):=of_decide_eq_true (by first | (with_reducible assumption) | assumption)
        have q372 : x5_1 < (l0.length : Int):=of_decide_eq_true (by first | (with_reducible assumption) | assumption)
        obtain ⟨ad372,A372_3,c372_3,e372,hx372_0,hx372_1,hx372_2,hx372_3,hx372_4,hx372_5,hl372_3,hi372_3⟩:=at_T34 HR0.out x5_1 p372 q372
        have hw372_5:=hx372_5
        have hw372_4:=hx372_4
        have hw372_3:=hx372_3
        have hw372_2:=hx372_2
        have hw372_1:=hx372_1
        have hw372_0:=hx372_0
        cases e372
        replace hx372_0:=(HB.out.cell (World.block_lt_of_cell? w _ hx372_0)).trans hx372_0
        replace hx372_1:=(HB.out.cell (World.block_lt_of_cell? w _ hx372_1)).trans hx372_1
        replace hx372_2:=(HB.out.cell (World.block_lt_of_cell? w _ hx372_2)).trans hx372_2
        replace hx372_3:=(HB.out.cell (World.block_lt_of_cell? w _ hx372_3)).trans hx372_3
        replace hx372_4:=(HB.out.cell (World.block_lt_of_cell? w _ hx372_4)).trans hx372_4
        replace hx372_5:=(HB.out.cell (World.block_lt_of_cell? w _ hx372_5)).trans hx372_5
        have HR372_3:=As.mk hi372_3
        have HC372_3:=As.mk hl372_3
        clear hi372_3 hl372_3
        replace p372:=eq_true p372
        replace q372:=eq_true q372
        have p373 : 0 ≤ (x5_1 : Int):=of_decide_eq_true (by first | (with_reducible assumption) | assumption)
        have q373 : x5_1 < (l1.length : Int):=of_decide_eq_true (by first | (with_reducible assumption) | assumption)
        obtain ⟨ad373,A373_3,c373_3,e373,hx373_0,hx373_1,hx373_2,hx373_3,hx373_4,hx373_5,hl373_3,hi373_3⟩:=at_T34 HR1.out x5_1 p373 q373
        have hw373_5:=hx373_5
        have hw373_4:=hx373_4
        have hw373_3:=hx373_3
        have hw373_2:=hx373_2
        have hw373_1:=hx373_1
        have hw373_0:=hx373_0
        cases e373
        replace hx373_0:=(HB.out.cell (World.block_lt_of_cell? w _ hx373_0)).trans hx373_0
        replace hx373_1:=(HB.out.cell (World.block_lt_of_cell? w _ hx373_1)).trans hx373_1
        replace hx373_2:=(HB.out.cell (World.block_lt_of_cell? w _ hx373_2)).trans hx373_2
        replace hx373_3:=(HB.out.cell (World.block_lt_of_cell? w _ hx373_3)).trans hx373_3
        replace hx373_4:=(HB.out.cell (World.block_lt_of_cell? w _ hx373_4)).trans hx373_4
        replace hx373_5:=(HB.out.cell (World.block_lt_of_cell? w _ hx373_5)).trans hx373_5
        have HR373_3:=As.mk hi373_3
        have HC373_3:=As.mk hl373_3
        clear hi373_3 hl373_3
        replace p373:=eq_true p373
        replace q373:=eq_true q373
        refine start_ (n:=10) (S:=fun w'=>w'.cell? (ad372.add ((x5_1).toNat * 6)) = some (.int .i64 ((rd_T34 l0 x5_1).f0)) ∧ w'.cell? ⟨(ad372.add ((x5_1).toNat * 6)).block,(ad372.add ((x5_1).toNat * 6)).off + 1,none⟩ = some (.string ((rd_T34 l0 x5_1).f1)) ∧ w'.cell? ⟨(ad372.add ((x5_1).toNat * 6)).block,(ad372.add ((x5_1).toNat * 6)).off + 2,none⟩ = some (.string ((rd_T34 l0 x5_1).f2)) ∧ w'.cell? ⟨(ad372.add ((x5_1).toNat * 6)).block,(ad372.add ((x5_1).toNat * 6)).off + 3,none⟩ = some (.slice A372_3 ((rd_T34 l0 x5_1).f3).length c372_3) ∧ w'.cell? ⟨(ad372.add ((x5_1).toNat * 6)).block,(ad372.add ((x5_1).toNat * 6)).off + 4,none⟩ = some (.string ((rd_T34 l0 x5_1).f4)) ∧ w'.cell? ⟨(ad372.add ((x5_1).toNat * 6)).block,(ad372.add ((x5_1).toNat * 6)).off + 5,none⟩ = some (.string ((rd_T34 l0 x5_1).f5)) ∧ w'.cell? (ad373.add ((x5_1).toNat * 6)) = some (.int .i64 ((rd_T34 l1 x5_1).f0)) ∧ w'.cell? ⟨(ad373.add ((x5_1).toNat * 6)).block,(ad373.add ((x5_1).toNat * 6)).off + 1,none⟩ = some (.string ((rd_T34 l1 x5_1).f1)) ∧ w'.cell? ⟨(ad373.add ((x5_1).toNat * 6)).block,(ad373.add ((x5_1).toNat * 6)).off + 2,none⟩ = some (.string ((rd_T34 l1 x5_1).f2)) ∧ w'.cell? ⟨(ad373.add ((x5_1).toNat * 6)).block,(ad373.add ((x5_1).toNat * 6)).off + 3,none⟩ = some (.slice A373_3 ((rd_T34 l1 x5_1).f3).length c373_3) ∧ w'.cell? ⟨(ad373.add ((x5_1).toNat * 6)).block,(ad373.add ((x5_1).toNat * 6)).off + 4,none⟩ = some (.string ((rd_T34 l1 x5_1).f4)) ∧ w'.cell? ⟨(ad373.add ((x5_1).toNat * 6)).block,(ad373.add ((x5_1).toNat * 6)).off + 5,none⟩ = some (.string ((rd_T34 l1 x5_1).f5))) (ds:=[]) #[false,false,false,false,false,false,false,false,false,false] (by kernel_rfl) rfl rfl ⟨((HB.out.cell (World.block_lt_of_cell? w _ hw372_0)).trans hw372_0),((HB.out.cell (World.block_lt_of_cell? w _ hw372_1)).trans hw372_1),((HB.out.cell (World.block_lt_of_cell? w _ hw372_2)).trans hw372_2),((HB.out.cell (World.block_lt_of_cell? w _ hw372_3)).trans hw372_3),((HB.out.cell (World.block_lt_of_cell? w _ hw372_4)).trans hw372_4),((HB.out.cell (World.block_lt_of_cell? w _ hw372_5)).trans hw372_5),((HB.out.cell (World.block_lt_of_cell? w _ hw373_0)).trans hw373_0),((HB.out.cell (World.block_lt_of_cell? w _ hw373_1)).trans hw373_1),((HB.out.cell (World.block_lt_of_cell? w _ hw373_2)).trans hw373_2),((HB.out.cell (World.block_lt_of_cell? w _ hw373_3)).trans hw373_3),((HB.out.cell (World.block_lt_of_cell? w _ hw373_4)).trans hw373_4),((HB.out.cell (World.block_lt_of_cell? w _ hw373_5)).trans hw373_5)⟩ (fun hHeld=>?_);refine with_tabW r07_SameAll.tab6 r07_SameAll.bits6 (fun HT_ HW_=>?_)
        generalize wr.drew = w9 at HB HR372_3 HR373_3 hx372_0 hx372_1 hx372_2 hx372_3 hx372_4 hx372_5 hx373_0 hx373_1 hx373_2 hx373_3 hx373_4 hx373_5 hHeld ⊢
        refine pure_ (i:=0) (N:=some 17) (v:=?_) (a':=?_) #[true,false,false,false,false,false,false,false,false,false] rfl rfl (any_of HT_.out (by kernel_rfl)) (fun _ _ _ h=>h) (Or.inl ⟨by rfl,?_⟩) ?_ ?_
        rotate_left
        ·intro w'
         go_simp
         with_reducible rfl
        rotate_left
        ·simp only [Act.put,List.setIfInBounds_toArray,List.set_cons_zero,List.set_cons_succ,i64_w,i32_w]
         rfl
        refine pure_ (i:=1) (N:=some 18) (v:=?_) (a':=?_) #[true,true,false,false,false,false,false,false,false,false] rfl rfl (any_of HT_.out (by kernel_rfl)) (fun _ _ _ h=>h) (Or.inl ⟨by rfl,?_⟩) ?_ ?_
        rotate_left
        ·intro w'
         go_simp
         with_reducible rfl
        rotate_left
        ·simp only [Act.put,List.setIfInBounds_toArray,List.set_cons_zero,List.set_cons_succ,i64_w,i32_w]
         rfl
        refine pure_ (i:=2) (N:=some 19) (v:=?_) (a':=?_) #[true,true,true,false,false,false,false,false,false,false] rfl rfl (any_of HT_.out (by kernel_rfl)) (fun _ _ _ h=>h) (Or.inl ⟨by rfl,?_⟩) ?_ ?_
        rotate_left
        ·intro w'
         go_simp
         with_reducible rfl
        rotate_left
        ·simp only [Act.put,List.setIfInBounds_toArray,List.set_cons_zero,List.set_cons_succ,i64_w,i32_w]
         rfl
        refine pure_ (i:=4) (N:=some 21) (v:=?_) (a':=?_) #[true,true,true,false,true,false,false,false,false,false] rfl rfl (any_of HT_.out (by kernel_rfl)) (fun _ _ _ h=>h) (Or.inl ⟨by rfl,?_⟩) ?_ ?_
        rotate_left
        ·intro w'
         go_simp
         with_reducible rfl
        rotate_left
        ·simp only [Act.put,List.setIfInBounds_toArray,List.set_cons_zero,List.set_cons_succ,i64_w,i32_w]
         rfl
        refine pure_ (i:=5) (N:=some 22) (v:=?_) (a':=?_) #[true,true,true,false,true,true,false,false,false,false] rfl rfl (any_of HT_.out (by kernel_rfl)) (fun _ _ _ h=>h) (Or.inl ⟨by rfl,?_⟩) ?_ ?_
        rotate_left
        ·intro w'
         go_simp
         with_reducible rfl
        rotate_left
        ·simp only [Act.put,List.setIfInBounds_toArray,List.set_cons_zero,List.set_cons_succ,i64_w,i32_w]
         rfl
        refine pure_ (i:=6) (N:=some 23) (v:=?_) (a':=?_) #[true,true,true,false,true,true,true,false,false,false] rfl rfl (any_of HT_.out (by kernel_rfl)) (fun _ _ _ h=>h) (Or.inl ⟨by rfl,?_⟩) ?_ ?_
        rotate_left
        ·intro w'
         go_simp
         with_reducible rfl
        rotate_left
        ·simp only [Act.put,List.setIfInBounds_toArray,List.set_cons_zero,List.set_cons_succ,i64_w,i32_w]
         rfl
        refine take_ (i:=3) (N:=some 20) (v:=?_) (a':=?_) #[true,true,true,true,true,true,true,false,false,false] rfl rfl (take_ofW HT_.out HW_.out (by kernel_rfl)) (fun _ _ _ h=>h) (Or.inl ⟨by rfl,?_⟩) hHeld ?_ ?_
        rotate_left
        ·rintro w' ⟨s0,s1,s2,s3,s4,s5,s6,s7,s8,s9,s10,s11⟩
         go_simp
         with_reducible rfl
        rotate_left
        ·simp only [Act.put,List.setIfInBounds_toArray,List.set_cons_zero,List.set_cons_succ,i64_w,i32_w]
         rfl
        refine take_ (i:=7) (N:=some 24) (v:=?_) (a':=?_) #[true,true,true,true,true,true,true,true,false,false] rfl rfl (take_ofW HT_.out HW_.out (by kernel_rfl)) (fun _ _ _ h=>h) (Or.inl ⟨by rfl,?_⟩) hHeld ?_ ?_
        rotate_left
        ·rintro w' ⟨s0,s1,s2,s3,s4,s5,s6,s7,s8,s9,s10,s11⟩
         go_simp
         with_reducible rfl
        rotate_left
        ·simp only [Act.put,List.setIfInBounds_toArray,List.set_cons_zero,List.set_cons_succ,i64_w,i32_w]
         rfl
        refine one_ (i:=8) (N:=some 25) #[true,true,true,true,true,true,true,true,true,false] rfl rfl (one_of HT_.out (by kernel_rfl)) (by decide) (fun K hK=>?_)
        refine goes_ Tryz.func35 (by kernel_rfl) rfl #[.agg #[.int .i64 ((rd_T34 l0 x5_1).f0),.string ((rd_T34 l0 x5_1).f1),.string ((rd_T34 l0 x5_1).f2),.slice A372_3 ((rd_T34 l0 x5_1).f3).length c372_3,.string ((rd_T34 l0 x5_1).f4),.string ((rd_T34 l0 x5_1).f5)],.agg #[.int .i64 ((rd_T34 l1 x5_1).f0),.string ((rd_T34 l1 x5_1).f1),.string ((rd_T34 l1 x5_1).f2),.slice A373_3 ((rd_T34 l1 x5_1).f3).length c373_3,.string ((rd_T34 l1 x5_1).f4),.string ((rd_T34 l1 x5_1).f5)]] (by rfl) rfl rfl (by (try simp only [List.map_toArray,List.map_cons,List.map_nil]);first | done | rfl | (simp only [List.length_drop,List.length_take];rfl)) ?_
        with_reducible refine (r07_Same.calls k1 ((rd_T34 l0 x5_1).f0) ((rd_T34 l0 x5_1).f1) ((rd_T34 l0 x5_1).f2) _ _ ((rd_T34 l0 x5_1).f3) ((rd_T34 l0 x5_1).f4) ((rd_T34 l0 x5_1).f5) ((rd_T34 l1 x5_1).f0) ((rd_T34 l1 x5_1).f1) ((rd_T34 l1 x5_1).f2) _ _ ((rd_T34 l1 x5_1).f3) ((rd_T34 l1 x5_1).f4) ((rd_T34 l1 x5_1).f5) true _ ?side1 ?side2 ?side3 ?side4 A7.out).mono ?_
        (case side1=>repeat (first | exact (Kd.C_below HR372_3.out HB.out) | (with_reducible refine Kd.C_alloc ?_ _) | (with_reducible refine Kd.C_drewN ?_ _) | (with_reducible refine Kd.C_drew ?_)))
        (case side2=>exact HC372_3.out)
        (case side3=>repeat (first | exact (Kd.C_below HR373_3.out HB.out) | (with_reducible refine Kd.C_alloc ?_ _) | (with_reducible refine Kd.C_drewN ?_ _) | (with_reducible refine Kd.C_drew ?_)))
        (case side4=>exact HC373_3.out)
        rintro e w10 ⟨rfl,hb⟩
        refine ⟨_,rfl,?_⟩
        have n0_:=As.mk (bS (by repeat (first | (with_reducible first | exact HB.out | apply bA | apply bN | apply bD) | exact HB.out)) hb)
        clear HB
        have HB:=n0_
        clear n0_
        (try clear hb)
        (try clear hb2)
        (try clear hk)
        (try clear hi)
        refine hK.out _ _ ⟨((HB.out.cell (World.block_lt_of_cell? w _ hw372_0)).trans hw372_0),((HB.out.cell (World.block_lt_of_cell? w _ hw372_1)).trans hw372_1),((HB.out.cell (World.block_lt_of_cell? w _ hw372_2)).trans hw372_2),((HB.out.cell (World.block_lt_of_cell? w _ hw372_3)).trans hw372_3),((HB.out.cell (World.block_lt_of_cell? w _ hw372_4)).trans hw372_4),((HB.out.cell (World.block_lt_of_cell? w _ hw372_5)).trans hw372_5),((HB.out.cell (World.block_lt_of_cell? w _ hw373_0)).trans hw373_0),((HB.out.cell (World.block_lt_of_cell? w _ hw373_1)).trans hw373_1),((HB.out.cell (World.block_lt_of_cell? w _ hw373_2)).trans hw373_2),((HB.out.cell (World.block_lt_of_cell? w _ hw373_3)).trans hw373_3),((HB.out.cell (World.block_lt_of_cell? w _ hw373_4)).trans hw373_4),((HB.out.cell (World.block_lt_of_cell? w _ hw373_5)).trans hw373_5)⟩ (fun hHeld=>?_)
        clear hK K
        refine norm_ (a':=?_) ?_ ?_
        rotate_left
        ·show Act.put _ (some 25) _ = _
         simp only [Act.put,List.setIfInBounds_toArray,List.set_cons_zero,List.set_cons_succ,i64_w,i32_w]
         rfl
        refine pure_ (i:=9) (N:=some 26) (v:=?_) (a':=?_) #[true,true,true,true,true,true,true,true,true,true] rfl rfl (any_of HT_.out (by kernel_rfl)) (fun _ _ _ h=>h) (Or.inl ⟨by rfl,?_⟩) ?_ ?_
        rotate_left
        ·intro w'
         go_simp
         with_reducible rfl
        rotate_left
        ·simp only [Act.put,List.setIfInBounds_toArray,List.set_cons_zero,List.set_cons_succ,i64_w,i32_w]
         rfl
        refine done_ (done_of HT_.out (by kernel_rfl)) ?_
        try go_wp2
        go_roundg k1
        case measure=>have:=HK1.out;omega
        case rel=>exact ⟨(wrap64 (x5_1 + 1)),(by first | rfl | (simp;done) | (simp [*];done)),H',⟨by have:=HK1.out;omega⟩,⟨by repeat (first | (with_reducible first | exact HB.out | apply bA | apply bN | apply bD) | exact HB.out)⟩⟩
       ·replace c8:=Bool.eq_false_iff.mpr c8
        subst c8
        have H1 : (some false) = some r:=by rw [if_neg (show ¬ (false = true) by decide)] at H;exact H
        clear H
        have H:=H1
        clear H1
        obtain rfl:=Option.some.inj H
        try go_wp2
        have n0_:=As.mk (bD HB.out)
        clear HB
        have HB:=n0_
        clear n0_
        have p372 : 0 ≤ (x5_1 : Int):=of_decide_eq_true (by first | (with_reducible assumption) | assumption)
        have q372 : x5_1 < (l0.length : Int):=of_decide_eq_true (by first | (with_reducible assumption) | assumption)
        obtain ⟨ad372,A372_3,c372_3,e372,hx372_0,hx372_1,hx372_2,hx372_3,hx372_4,hx372_5,hl372_3,hi372_3⟩:=at_T34 HR0.out x5_1 p372 q372
        have hw372_5:=hx372_5
        have hw372_4:=hx372_4
        have hw372_3:=hx372_3
        have hw372_2:=hx372_2
        have hw372_1:=hx372_1
        have hw372_0:=hx372_0
        cases e372
        replace hx372_0:=(HB.out.cell (World.block_lt_of_cell? w _ hx372_0)).trans hx372_0
        replace hx372_1:=(HB.out.cell (World.block_lt_of_cell? w _ hx372_1)).trans hx372_1
        replace hx372_2:=(HB.out.cell (World.block_lt_of_cell? w _ hx372_2)).trans hx372_2
        replace hx372_3:=(HB.out.cell (World.block_lt_of_cell? w _ hx372_3)).trans hx372_3
        replace hx372_4:=(HB.out.cell (World.block_lt_of_cell? w _ hx372_4)).trans hx372_4
        replace hx372_5:=(HB.out.cell (World.block_lt_of_cell? w _ hx372_5)).trans hx372_5
        have HR372_3:=As.mk hi372_3
        have HC372_3:=As.mk hl372_3
        clear hi372_3 hl372_3
        replace p372:=eq_true p372
        replace q372:=eq_true q372
        have p373 : 0 ≤ (x5_1 : Int):=of_decide_eq_true (by first | (with_reducible assumption) | assumption)
        have q373 : x5_1 < (l1.length : Int):=of_decide_eq_true (by first | (with_reducible assumption) | assumption)
        obtain ⟨ad373,A373_3,c373_3,e373,hx373_0,hx373_1,hx373_2,hx373_3,hx373_4,hx373_5,hl373_3,hi373_3⟩:=at_T34 HR1.out x5_1 p373 q373
        have hw373_5:=hx373_5
        have hw373_4:=hx373_4
        have hw373_3:=hx373_3
        have hw373_2:=hx373_2
        have hw373_1:=hx373_1
        have hw373_0:=hx373_0
        cases e373
        replace hx373_0:=(HB.out.cell (World.block_lt_of_cell? w _ hx373_0)).trans hx373_0
        replace hx373_1:=(HB.out.cell (World.block_lt_of_cell? w _ hx373_1)).trans hx373_1
        replace hx373_2:=(HB.out.cell (World.block_lt_of_cell? w _ hx373_2)).trans hx373_2
        replace hx373_3:=(HB.out.cell (World.block_lt_of_cell? w _ hx373_3)).trans hx373_3
        replace hx373_4:=(HB.out.cell (World.block_lt_of_cell? w _ hx373_4)).trans hx373_4
        replace hx373_5:=(HB.out.cell (World.block_lt_of_cell? w _ hx373_5)).trans hx373_5
        have HR373_3:=As.mk hi373_3
        have HC373_3:=As.mk hl373_3
        clear hi373_3 hl373_3
        replace p373:=eq_true p373
        replace q373:=eq_true q373
        refine start_ (n:=10) (S:=fun w'=>w'.cell? (ad372.add ((x5_1).toNat * 6)) = some (.int .i64 ((rd_T34 l0 x5_1).f0)) ∧ w'.cell? ⟨(ad372.add ((x5_1).toNat * 6)).block,(ad372.add ((x5_1).toNat * 6)).off + 1,none⟩ = some (.string ((rd_T34 l0 x5_1).f1)) ∧ w'.cell? ⟨(ad372.add ((x5_1).toNat * 6)).block,(ad372.add ((x5_1).toNat * 6)).off + 2,none⟩ = some (.string ((rd_T34 l0 x5_1).f2)) ∧ w'.cell? ⟨(ad372.add ((x5_1).toNat * 6)).block,(ad372.add ((x5_1).toNat * 6)).off + 3,none⟩ = some (.slice A372_3 ((rd_T34 l0 x5_1).f3).length c372_3) ∧ w'.cell? ⟨(ad372.add ((x5_1).toNat * 6)).block,(ad372.add ((x5_1).toNat * 6)).off + 4,none⟩ = some (.string ((rd_T34 l0 x5_1).f4)) ∧ w'.cell? ⟨(ad372.add ((x5_1).toNat * 6)).block,(ad372.add ((x5_1).toNat * 6)).off + 5,none⟩ = some (.string ((rd_T34 l0 x5_1).f5)) ∧ w'.cell? (ad373.add ((x5_1).toNat * 6)) = some (.int .i64 ((rd_T34 l1 x5_1).f0)) ∧ w'.cell? ⟨(ad373.add ((x5_1).toNat * 6)).block,(ad373.add ((x5_1).toNat * 6)).off + 1,none⟩ = some (.string ((rd_T34 l1 x5_1).f1)) ∧ w'.cell? ⟨(ad373.add ((x5_1).toNat * 6)).block,(ad373.add ((x5_1).toNat * 6)).off + 2,none⟩ = some (.string ((rd_T34 l1 x5_1).f2)) ∧ w'.cell? ⟨(ad373.add ((x5_1).toNat * 6)).block,(ad373.add ((x5_1).toNat * 6)).off + 3,none⟩ = some (.slice A373_3 ((rd_T34 l1 x5_1).f3).length c373_3) ∧ w'.cell? ⟨(ad373.add ((x5_1).toNat * 6)).block,(ad373.add ((x5_1).toNat * 6)).off + 4,none⟩ = some (.string ((rd_T34 l1 x5_1).f4)) ∧ w'.cell? ⟨(ad373.add ((x5_1).toNat * 6)).block,(ad373.add ((x5_1).toNat * 6)).off + 5,none⟩ = some (.string ((rd_T34 l1 x5_1).f5))) (ds:=[]) #[false,false,false,false,false,false,false,false,false,false] (by kernel_rfl) rfl rfl ⟨((HB.out.cell (World.block_lt_of_cell? w _ hw372_0)).trans hw372_0),((HB.out.cell (World.block_lt_of_cell? w _ hw372_1)).trans hw372_1),((HB.out.cell (World.block_lt_of_cell? w _ hw372_2)).trans hw372_2),((HB.out.cell (World.block_lt_of_cell? w _ hw372_3)).trans hw372_3),((HB.out.cell (World.block_lt_of_cell? w _ hw372_4)).trans hw372_4),((HB.out.cell (World.block_lt_of_cell? w _ hw372_5)).trans hw372_5),((HB.out.cell (World.block_lt_of_cell? w _ hw373_0)).trans hw373_0),((HB.out.cell (World.block_lt_of_cell? w _ hw373_1)).trans hw373_1),((HB.out.cell (World.block_lt_of_cell? w _ hw373_2)).trans hw373_2),((HB.out.cell (World.block_lt_of_cell? w _ hw373_3)).trans hw373_3),((HB.out.cell (World.block_lt_of_cell? w _ hw373_4)).trans hw373_4),((HB.out.cell (World.block_lt_of_cell? w _ hw373_5)).trans hw373_5)⟩ (fun hHeld=>?_);refine with_tabW r07_SameAll.tab6 r07_SameAll.bits6 (fun HT_ HW_=>?_)
        generalize wr.drew = w11 at HB HR372_3 HR373_3 hx372_0 hx372_1 hx372_2 hx372_3 hx372_4 hx372_5 hx373_0 hx373_1 hx373_2 hx373_3 hx373_4 hx373_5 hHeld ⊢
        refine pure_ (i:=0) (N:=some 17) (v:=?_) (a':=?_) #[true,false,false,false,false,false,false,false,false,false] rfl rfl (any_of HT_.out (by kernel_rfl)) (fun _ _ _ h=>h) (Or.inl ⟨by rfl,?_⟩) ?_ ?_
        rotate_left
        ·intro w'
         go_simp
         with_reducible rfl
        rotate_left
        ·simp only [Act.put,List.setIfInBounds_toArray,List.set_cons_zero,List.set_cons_succ,i64_w,i32_w]
         rfl
        refine pure_ (i:=1) (N:=some 18) (v:=?_) (a':=?_) #[true,true,false,false,false,false,false,false,false,false] rfl rfl (any_of HT_.out (by kernel_rfl)) (fun _ _ _ h=>h) (Or.inl ⟨by rfl,?_⟩) ?_ ?_
        rotate_left
        ·intro w'
         go_simp
         with_reducible rfl
        rotate_left
        ·simp only [Act.put,List.setIfInBounds_toArray,List.set_cons_zero,List.set_cons_succ,i64_w,i32_w]
         rfl
        refine pure_ (i:=2) (N:=some 19) (v:=?_) (a':=?_) #[true,true,true,false,false,false,false,false,false,false] rfl rfl (any_of HT_.out (by kernel_rfl)) (fun _ _ _ h=>h) (Or.inl ⟨by rfl,?_⟩) ?_ ?_
        rotate_left
        ·intro w'
         go_simp
         with_reducible rfl
        rotate_left
        ·simp only [Act.put,List.setIfInBounds_toArray,List.set_cons_zero,List.set_cons_succ,i64_w,i32_w]
         rfl
        refine pure_ (i:=4) (N:=some 21) (v:=?_) (a':=?_) #[true,true,true,false,true,false,false,false,false,false] rfl rfl (any_of HT_.out (by kernel_rfl)) (fun _ _ _ h=>h) (Or.inl ⟨by rfl,?_⟩) ?_ ?_
        rotate_left
        ·intro w'
         go_simp
         with_reducible rfl
        rotate_left
        ·simp only [Act.put,List.setIfInBounds_toArray,List.set_cons_zero,List.set_cons_succ,i64_w,i32_w]
         rfl
        refine pure_ (i:=5) (N:=some 22) (v:=?_) (a':=?_) #[true,true,true,false,true,true,false,false,false,false] rfl rfl (any_of HT_.out (by kernel_rfl)) (fun _ _ _ h=>h) (Or.inl ⟨by rfl,?_⟩) ?_ ?_
        rotate_left
        ·intro w'
         go_simp
         with_reducible rfl
        rotate_left
        ·simp only [Act.put,List.setIfInBounds_toArray,List.set_cons_zero,List.set_cons_succ,i64_w,i32_w]
         rfl
        refine pure_ (i:=6) (N:=some 23) (v:=?_) (a':=?_) #[true,true,true,false,true,true,true,false,false,false] rfl rfl (any_of HT_.out (by kernel_rfl)) (fun _ _ _ h=>h) (Or.inl ⟨by rfl,?_⟩) ?_ ?_
        rotate_left
        ·intro w'
         go_simp
         with_reducible rfl
        rotate_left
        ·simp only [Act.put,List.setIfInBounds_toArray,List.set_cons_zero,List.set_cons_succ,i64_w,i32_w]
         rfl
        refine take_ (i:=3) (N:=some 20) (v:=?_) (a':=?_) #[true,true,true,true,true,true,true,false,false,false] rfl rfl (take_ofW HT_.out HW_.out (by kernel_rfl)) (fun _ _ _ h=>h) (Or.inl ⟨by rfl,?_⟩) hHeld ?_ ?_
        rotate_left
        ·rintro w' ⟨s0,s1,s2,s3,s4,s5,s6,s7,s8,s9,s10,s11⟩
         go_simp
         with_reducible rfl
        rotate_left
        ·simp only [Act.put,List.setIfInBounds_toArray,List.set_cons_zero,List.set_cons_succ,i64_w,i32_w]
         rfl
        refine take_ (i:=7) (N:=some 24) (v:=?_) (a':=?_) #[true,true,true,true,true,true,true,true,false,false] rfl rfl (take_ofW HT_.out HW_.out (by kernel_rfl)) (fun _ _ _ h=>h) (Or.inl ⟨by rfl,?_⟩) hHeld ?_ ?_
        rotate_left
        ·rintro w' ⟨s0,s1,s2,s3,s4,s5,s6,s7,s8,s9,s10,s11⟩
         go_simp
         with_reducible rfl
        rotate_left
        ·simp only [Act.put,List.setIfInBounds_toArray,List.set_cons_zero,List.set_cons_succ,i64_w,i32_w]
         rfl
        refine one_ (i:=8) (N:=some 25) #[true,true,true,true,true,true,true,true,true,false] rfl rfl (one_of HT_.out (by kernel_rfl)) (by decide) (fun K hK=>?_)
        refine goes_ Tryz.func35 (by kernel_rfl) rfl #[.agg #[.int .i64 ((rd_T34 l0 x5_1).f0),.string ((rd_T34 l0 x5_1).f1),.string ((rd_T34 l0 x5_1).f2),.slice A372_3 ((rd_T34 l0 x5_1).f3).length c372_3,.string ((rd_T34 l0 x5_1).f4),.string ((rd_T34 l0 x5_1).f5)],.agg #[.int .i64 ((rd_T34 l1 x5_1).f0),.string ((rd_T34 l1 x5_1).f1),.string ((rd_T34 l1 x5_1).f2),.slice A373_3 ((rd_T34 l1 x5_1).f3).length c373_3,.string ((rd_T34 l1 x5_1).f4),.string ((rd_T34 l1 x5_1).f5)]] (by rfl) rfl rfl (by (try simp only [List.map_toArray,List.map_cons,List.map_nil]);first | done | rfl | (simp only [List.length_drop,List.length_take];rfl)) ?_
        with_reducible refine (r07_Same.calls k1 ((rd_T34 l0 x5_1).f0) ((rd_T34 l0 x5_1).f1) ((rd_T34 l0 x5_1).f2) _ _ ((rd_T34 l0 x5_1).f3) ((rd_T34 l0 x5_1).f4) ((rd_T34 l0 x5_1).f5) ((rd_T34 l1 x5_1).f0) ((rd_T34 l1 x5_1).f1) ((rd_T34 l1 x5_1).f2) _ _ ((rd_T34 l1 x5_1).f3) ((rd_T34 l1 x5_1).f4) ((rd_T34 l1 x5_1).f5) false _ ?side1 ?side2 ?side3 ?side4 A7.out).mono ?_
        (case side1=>repeat (first | exact (Kd.C_below HR372_3.out HB.out) | (with_reducible refine Kd.C_alloc ?_ _) | (with_reducible refine Kd.C_drewN ?_ _) | (with_reducible refine Kd.C_drew ?_)))
        (case side2=>exact HC372_3.out)
        (case side3=>repeat (first | exact (Kd.C_below HR373_3.out HB.out) | (with_reducible refine Kd.C_alloc ?_ _) | (with_reducible refine Kd.C_drewN ?_ _) | (with_reducible refine Kd.C_drew ?_)))
        (case side4=>exact HC373_3.out)
        rintro e w12 ⟨rfl,hb⟩
        refine ⟨_,rfl,?_⟩
        have n0_:=As.mk (bS (by repeat (first | (with_reducible first | exact HB.out | apply bA | apply bN | apply bD) | exact HB.out)) hb)
        clear HB
        have HB:=n0_
        clear n0_
        (try clear hb)
        (try clear hb2)
        (try clear hk)
        (try clear hi)
        refine hK.out _ _ ⟨((HB.out.cell (World.block_lt_of_cell? w _ hw372_0)).trans hw372_0),((HB.out.cell (World.block_lt_of_cell? w _ hw372_1)).trans hw372_1),((HB.out.cell (World.block_lt_of_cell? w _ hw372_2)).trans hw372_2),((HB.out.cell (World.block_lt_of_cell? w _ hw372_3)).trans hw372_3),((HB.out.cell (World.block_lt_of_cell? w _ hw372_4)).trans hw372_4),((HB.out.cell (World.block_lt_of_cell? w _ hw372_5)).trans hw372_5),((HB.out.cell (World.block_lt_of_cell? w _ hw373_0)).trans hw373_0),((HB.out.cell (World.block_lt_of_cell? w _ hw373_1)).trans hw373_1),((HB.out.cell (World.block_lt_of_cell? w _ hw373_2)).trans hw373_2),((HB.out.cell (World.block_lt_of_cell? w _ hw373_3)).trans hw373_3),((HB.out.cell (World.block_lt_of_cell? w _ hw373_4)).trans hw373_4),((HB.out.cell (World.block_lt_of_cell? w _ hw373_5)).trans hw373_5)⟩ (fun hHeld=>?_)
        clear hK K
        refine norm_ (a':=?_) ?_ ?_
        rotate_left
        ·show Act.put _ (some 25) _ = _
         simp only [Act.put,List.setIfInBounds_toArray,List.set_cons_zero,List.set_cons_succ,i64_w,i32_w]
         rfl
        refine pure_ (i:=9) (N:=some 26) (v:=?_) (a':=?_) #[true,true,true,true,true,true,true,true,true,true] rfl rfl (any_of HT_.out (by kernel_rfl)) (fun _ _ _ h=>h) (Or.inl ⟨by rfl,?_⟩) ?_ ?_
        rotate_left
        ·intro w'
         go_simp
         with_reducible rfl
        rotate_left
        ·simp only [Act.put,List.setIfInBounds_toArray,List.set_cons_zero,List.set_cons_succ,i64_w,i32_w]
         rfl
        refine done_ (done_of HT_.out (by kernel_rfl)) ?_
        try go_wp2
        go_ret
        exact ⟨by first | rfl | (simp [eN,eS] <;> rfl) | (simp [*,eN,eS] <;> rfl),by repeat (first | (with_reducible first | exact HB.out | apply bA | apply bN | apply bD) | exact HB.out)⟩
      ·rw [if_neg c6] at H
       exact absurd H (by simp)
     ·rw [if_neg c5] at H
      exact absurd H (by simp)
    ·rw [if_neg c4] at H
     have c4b0 : decide (x5_1 < (l0.length : Int)) = false:=decide_eq_false c4
     clear c4
     obtain rfl:=Option.some.inj H
     go_wp2
     go_ret
     exact ⟨by first | rfl | (simp [eN,eS] <;> rfl) | (simp [*,eN,eS] <;> rfl),by repeat (first | (with_reducible first | exact HB.out | apply bA | apply bN | apply bD) | exact HB.out)⟩
 ·rw [if_neg c3] at H
  have c3b0 : ((l0.length : Int) == (l1.length : Int)) = false:=beq_eq_false_iff_ne.mpr c3
  have c3b1 : ((l0.length : Int) != (l1.length : Int)) = true:=bne_iff_ne.mpr c3
  have c3b2 : (l0.length == l1.length) = false:=by first | simpa using c3 | (simp at c3 ⊢;omega)
  obtain rfl:=Option.some.inj H
  go_enter Tryz.func47,Tryz.ntmps47
  go_wp2
  go_ret
  exact ⟨by first | rfl | (simp [eN,eS] <;> rfl) | (simp [*,eN,eS] <;> rfl),by repeat (first | (with_reducible first | exact HB.out | apply bA | apply bN | apply bD) | exact HB.out)⟩
end Go.Proofs.YtmlebgikdegjjaaGreatDoor.PAll
