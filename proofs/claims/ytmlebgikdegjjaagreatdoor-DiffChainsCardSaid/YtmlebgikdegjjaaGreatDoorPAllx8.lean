import Derived.Test.YtmlebgikdegjjaaGreatDoorPAllx0
import Derived.Test.YtmlebgikdegjjaaGreatDoorPAllx0
import Derived.Test.YtmlebgikdegjjaaGreatDoorPAllx0
import Derived.Test.YtmlebgikdegjjaaGreatDoorPAllx0
import Derived.Test.YtmlebgikdegjjaaGreatDoorPAllx3
import Derived.Test.YtmlebgikdegjjaaGreatDoorPAllx0
import Derived.Test.YtmlebgikdegjjaaGreatDoorPAllx3
import Derived.Test.YtmlebgikdegjjaaGreatDoorPAllx0
import Derived.Test.YtmlebgikdegjjaaGreatDoorPAllx3
set_option maxHeartbeats 8000000
set_option maxRecDepth 100000
namespace Go.Proofs.YtmlebgikdegjjaaGreatDoor.PAll
open Go.RowKit Go.Proofs.YtmlebgikdegjjaaGreatDoorW.PrintWords Go.Proofs.YtmlebgikdegjjaaGreatDoorW.PrintLast Go.Proofs.YtmlebgikdegjjaaGreatDoorW.PrintMore
attribute [local go_sem] max2_int min2_int max_two min_two max_three min_three max_four min_four   -- for this text's walks alone
set_option linter.unusedVariables false
set_option linter.unusedSimpArgs false
/-! ### r01_Same: function 43 -/
/-! ### r07_Same: function 35 -/
/-! ### r08_Drop: function 22 -/
/-! ### sEs: function 116 -/
def sEs.l0 : Nat → List ByteArray → List ByteArray → Int → Int → Option (Bool)
 | 0,_,_,_,_=>none
 | k + 1,x0,x1,x12,x13=>if x13 < x12 then (if 0 ≤ x13 then (if x13 < (x0.length : Int) then (if x13 < (x1.length : Int) then (if (rdOf ByteArray.empty x0 x13).toList = (rdOf ByteArray.empty x1 x13).toList then (sEs.l0 k x0 x1 x12 (wrap64 (x13 + 1))) else (some false)) else (none)) else (none)) else (none)) else (some true)
def sEs.f (k : Nat) (l0 : List ByteArray) (l1 : List ByteArray) : Option (Bool):=if (l0.length : Int) = (l1.length : Int) then (sEs.l0 k l0 l1 (l0.length : Int) 0) else (some false)
theorem sEs.mono_l : ∀ k,(∀ y0 y1 y2 y3,LeO (sEs.l0 k y0 y1 y2 y3) (sEs.l0 (k + 1) y0 y1 y2 y3))
 | 0=>fun _ _ _ _ r h=>by simp [sEs.l0] at h
 | k + 1=>by
  have ih0:=sEs.mono_l k
  ·intro y0 y1 y2 y3
   unfold sEs.l0
   repeat' first
   | (with_reducible exact ih0 _ _ _ _)
   | (with_reducible exact LeO.refl _)
   | (with_reducible exact LeO.none _)
   | (with_reducible refine LeO.ite ?_ ?_)
   | (with_reducible refine LeO.bind ?_ (fun _=>?_))
   | exact ih0 _ _ _ _
   | exact LeO.none _
   | refine LeO.ite ?_ ?_
   | refine LeO.bind ?_ (fun _=>?_)
theorem sEs.mono : ∀ a0 a1 k,LeO (sEs.f k a0 a1) (sEs.f (k + 1) a0 a1):=by
 intro a0 a1 k
 have ih0:=sEs.mono_l k
 unfold sEs.f
 repeat' first
   | (with_reducible exact ih0 _ _ _ _)
   | (with_reducible exact LeO.refl _)
   | (with_reducible exact LeO.none _)
   | (with_reducible refine LeO.ite ?_ ?_)
   | (with_reducible refine LeO.bind ?_ (fun _=>?_))
   | exact ih0 _ _ _ _
   | exact LeO.none _
   | refine LeO.ite ?_ ?_
   | refine LeO.bind ?_ (fun _=>?_)
theorem sEs.calls (k : Nat) (A0 : Option Addr) (c0 : Nat) (l0 : List ByteArray) (A1 : Option Addr) (c1 : Nat) (l1 : List ByteArray) (r : Bool) (w : World) (hr0 : Kd.C Kd.string w A0 l0.length l0) (hc0 : l0.length ≤ c0) (hr1 : Kd.C Kd.string w A1 l1.length l1) (hc1 : l1.length ≤ c1) (h : sEs.f k l0 l1 = some r) :
  Calls Tryz.prog 116 #[.slice A0 l0.length c0,.slice A1 l1.length c1] w fun e w'=>e = .returned (.bool r) ∧ Drawn0 w w':=by
 have HR0:=As.mk hr0
 have HC0:=As.mk hc0
 clear hr0 hc0
 have HR1:=As.mk hr1
 have HC1:=As.mk hc1
 clear hr1 hc1
 have H : (if (l0.length : Int) = (l1.length : Int) then (sEs.l0 k l0 l1 (l0.length : Int) 0) else (some false)) = some r:=h
 clear h
 by_cases c3 : (l0.length : Int) = (l1.length : Int)
 ·rw [if_pos c3] at H
  have c3b0 : ((l0.length : Int) == (l1.length : Int)) = true:=beq_iff_eq.mpr c3
  have c3b1 : ((l0.length : Int) != (l1.length : Int)) = false:=bne_eq_false_iff_eq.mpr c3
  have c3b2 : (l0.length == l1.length) = true:=by first | simpa using c3 | (simp at c3 ⊢;omega)
  clear c3
  have H':=As.mk H
  clear H
  go_enter Tryz.func116,Tryz.ntmps116
  go_wp2
  repeat (go_quiet (fail);try go_wp2)
  go_loopg [13] k (fun kq v13 w'=>∃ (x13_1 : Int),v13 = .int .i64 x13_1 ∧ As (sEs.l0 kq l0 l1 (l0.length : Int) x13_1 = some r) ∧ As (kq ≤ k) ∧ Drawn0 w w')
  case atStart=>exact ⟨(0),(by first | rfl | (simp;done) | (simp [*];done)),H',⟨Nat.le_refl _⟩,by repeat (first | exact Drawn0.refl _ | apply Drawn0.step)⟩
  case round =>
   clear H'
   try clear c1
   try clear p2
   try clear c3
   try clear c3b0
   try clear c3b1
   try clear c3b2
   obtain ⟨x13_1,rfl,HA,HK1,⟨m1,rfl⟩⟩:=hrel
   cases gk with
   | zero=>exact absurd HA.out (by simp [sEs.l0])
   | succ k1 =>
    have H:=HA.out
    clear HA
    simp only [sEs.l0] at H
    by_cases c4 : x13_1 < (l0.length : Int)
    ·rw [if_pos c4] at H
     have c4b0 : decide (x13_1 < (l0.length : Int)) = true:=decide_eq_true c4
     clear c4
     by_cases c5 : 0 ≤ x13_1
     ·rw [if_pos c5] at H
      have c5b0 : decide (0 ≤ x13_1) = true:=decide_eq_true c5
      clear c5
      by_cases c6 : x13_1 < (l0.length : Int)
      ·rw [if_pos c6] at H
       have c6b0 : decide (x13_1 < (l0.length : Int)) = true:=decide_eq_true c6
       clear c6
       by_cases c7 : x13_1 < (l1.length : Int)
       ·rw [if_pos c7] at H
        have c7b0 : decide (x13_1 < (l1.length : Int)) = true:=decide_eq_true c7
        clear c7
        by_cases c8 : (rdOf ByteArray.empty l0 x13_1).toList = (rdOf ByteArray.empty l1 x13_1).toList
        ·rw [if_pos c8] at H
         have c8b0 : ((rdOf ByteArray.empty l0 x13_1).toList == (rdOf ByteArray.empty l1 x13_1).toList) = true:=beq_iff_eq.mpr c8
         have c8b1 : ((rdOf ByteArray.empty l0 x13_1).toList != (rdOf ByteArray.empty l1 x13_1).toList) = false:=bne_eq_false_iff_eq.mpr c8
         clear c8
         have H':=As.mk H
         clear H
         have p239 : 0 ≤ (x13_1 : Int):=of_decide_eq_true (by first | (with_reducible assumption) | assumption)
         have q239 : x13_1 < (l0.length : Int):=of_decide_eq_true (by first | (with_reducible assumption) | assumption)
         obtain ⟨ad239,e239,hx239_0⟩:=Kd.at_string HR0.out x13_1 p239 q239
         cases e239
         replace p239:=eq_true p239
         replace q239:=eq_true q239
         have p240 : 0 ≤ (x13_1 : Int):=of_decide_eq_true (by first | (with_reducible assumption) | assumption)
         have q240 : x13_1 < (l1.length : Int):=of_decide_eq_true (by first | (with_reducible assumption) | assumption)
         obtain ⟨ad240,e240,hx240_0⟩:=Kd.at_string HR1.out x13_1 p240 q240
         cases e240
         replace p240:=eq_true p240
         replace q240:=eq_true q240
         go_wp2
         repeat (go_quiet (fail);try go_wp2)
         go_roundg k1
         case measure=>have:=HK1.out;omega
         case rel=>exact ⟨(wrap64 (x13_1 + 1)),(by first | rfl | (simp;done) | (simp [*];done)),H',⟨by have:=HK1.out;omega⟩,by repeat (first | exact Drawn0.refl _ | apply Drawn0.step)⟩
        ·rw [if_neg c8] at H
         have c8b0 : ((rdOf ByteArray.empty l0 x13_1).toList == (rdOf ByteArray.empty l1 x13_1).toList) = false:=beq_eq_false_iff_ne.mpr c8
         have c8b1 : ((rdOf ByteArray.empty l0 x13_1).toList != (rdOf ByteArray.empty l1 x13_1).toList) = true:=bne_iff_ne.mpr c8
         obtain rfl:=Option.some.inj H
         have p239 : 0 ≤ (x13_1 : Int):=of_decide_eq_true (by first | (with_reducible assumption) | assumption)
         have q239 : x13_1 < (l0.length : Int):=of_decide_eq_true (by first | (with_reducible assumption) | assumption)
         obtain ⟨ad239,e239,hx239_0⟩:=Kd.at_string HR0.out x13_1 p239 q239
         cases e239
         replace p239:=eq_true p239
         replace q239:=eq_true q239
         have p240 : 0 ≤ (x13_1 : Int):=of_decide_eq_true (by first | (with_reducible assumption) | assumption)
         have q240 : x13_1 < (l1.length : Int):=of_decide_eq_true (by first | (with_reducible assumption) | assumption)
         obtain ⟨ad240,e240,hx240_0⟩:=Kd.at_string HR1.out x13_1 p240 q240
         cases e240
         replace p240:=eq_true p240
         replace q240:=eq_true q240
         go_wp2
         repeat (go_quiet (fail);try go_wp2)
         go_ret
         exact ⟨by first | rfl | (simp;done) | (simp [*];done),by repeat (first | exact Drawn0.refl _ | apply Drawn0.step)⟩
       ·rw [if_neg c7] at H
        exact absurd H (by simp)
      ·rw [if_neg c6] at H
       exact absurd H (by simp)
     ·rw [if_neg c5] at H
      exact absurd H (by simp)
    ·rw [if_neg c4] at H
     have c4b0 : decide (x13_1 < (l0.length : Int)) = false:=decide_eq_false c4
     clear c4
     obtain rfl:=Option.some.inj H
     go_wp2
     repeat (go_quiet (fail);try go_wp2)
     go_ret
     exact ⟨by first | rfl | (simp;done) | (simp [*];done),by repeat (first | exact Drawn0.refl _ | apply Drawn0.step)⟩
 ·rw [if_neg c3] at H
  have c3b0 : ((l0.length : Int) == (l1.length : Int)) = false:=beq_eq_false_iff_ne.mpr c3
  have c3b1 : ((l0.length : Int) != (l1.length : Int)) = true:=bne_iff_ne.mpr c3
  have c3b2 : (l0.length == l1.length) = false:=by first | simpa using c3 | (simp at c3 ⊢;omega)
  obtain rfl:=Option.some.inj H
  go_enter Tryz.func116,Tryz.ntmps116
  go_wp2
  repeat (go_quiet (fail);try go_wp2)
  go_ret
  exact ⟨by first | rfl | (simp;done) | (simp [*];done),by repeat (first | exact Drawn0.refl _ | apply Drawn0.step)⟩
/-! ### def_Same: function 76 -/
def def_Same.f (k : Nat) (a0_0 : Int) (a0_1 : ByteArray) (a0_2 : ByteArray) (l0_3 : List ByteArray) (a0_4 : ByteArray) (a0_5 : ByteArray) (a1_0 : Int) (a1_1 : ByteArray) (a1_2 : ByteArray) (l1_3 : List ByteArray) (a1_4 : ByteArray) (a1_5 : ByteArray) : Option (Bool):=if a0_0 = a1_0 then (if a0_1.toList = a1_1.toList then (if a0_2.toList = a1_2.toList then ((sEs.f k l0_3 l1_3).bind fun t243=>(if t243 = true then (if a0_4.toList = a1_4.toList then (some (a0_5.toList == a1_5.toList)) else (some false)) else (some false))) else (some false)) else (some false)) else (some false)
theorem def_Same.mono : ∀ a0 a1 a2 a3 a4 a5 a6 a7 a8 a9 a10 a11 k,LeO (def_Same.f k a0 a1 a2 a3 a4 a5 a6 a7 a8 a9 a10 a11) (def_Same.f (k + 1) a0 a1 a2 a3 a4 a5 a6 a7 a8 a9 a10 a11):=by
 intro a0 a1 a2 a3 a4 a5 a6 a7 a8 a9 a10 a11 k
 unfold def_Same.f
 repeat' first
   | (with_reducible exact sEs.mono _ _ _)
   | (with_reducible exact LeO.refl _)
   | (with_reducible exact LeO.none _)
   | (with_reducible refine LeO.ite ?_ ?_)
   | (with_reducible refine LeO.bind ?_ (fun _=>?_))
   | exact sEs.mono _ _ _
   | exact LeO.none _
   | refine LeO.ite ?_ ?_
   | refine LeO.bind ?_ (fun _=>?_)
theorem def_Same.calls (k : Nat) (a0_0 : Int) (a0_1 : ByteArray) (a0_2 : ByteArray) (A0_3 : Option Addr) (c0_3 : Nat) (l0_3 : List ByteArray) (a0_4 : ByteArray) (a0_5 : ByteArray) (a1_0 : Int) (a1_1 : ByteArray) (a1_2 : ByteArray) (A1_3 : Option Addr) (c1_3 : Nat) (l1_3 : List ByteArray) (a1_4 : ByteArray) (a1_5 : ByteArray) (r : Bool) (w : World) (hr0_3 : Kd.C Kd.string w A0_3 l0_3.length l0_3) (hc0_3 : l0_3.length ≤ c0_3) (hr1_3 : Kd.C Kd.string w A1_3 l1_3.length l1_3) (hc1_3 : l1_3.length ≤ c1_3) (h : def_Same.f k a0_0 a0_1 a0_2 l0_3 a0_4 a0_5 a1_0 a1_1 a1_2 l1_3 a1_4 a1_5 = some r) :
  Calls Tryz.prog 76 #[.agg #[.int .i64 a0_0,.string a0_1,.string a0_2,.slice A0_3 l0_3.length c0_3,.string a0_4,.string a0_5],.agg #[.int .i64 a1_0,.string a1_1,.string a1_2,.slice A1_3 l1_3.length c1_3,.string a1_4,.string a1_5]] w fun e w'=>e = .returned (.bool r) ∧ Below w.heap.size w w':=by
 have hu34:=Tryz.underlying34
 have HR0_3:=As.mk hr0_3
 have HC0_3:=As.mk hc0_3
 clear hr0_3 hc0_3
 have HR1_3:=As.mk hr1_3
 have HC1_3:=As.mk hc1_3
 clear hr1_3 hc1_3
 have HB:=As.mk (Below.refl w.heap.size w)
 have H : (if a0_0 = a1_0 then (if a0_1.toList = a1_1.toList then (if a0_2.toList = a1_2.toList then ((sEs.f k l0_3 l1_3).bind fun t243=>(if t243 = true then (if a0_4.toList = a1_4.toList then (some (a0_5.toList == a1_5.toList)) else (some false)) else (some false))) else (some false)) else (some false)) else (some false)) = some r:=h
 clear h
 by_cases c3 : a0_0 = a1_0
 ·rw [if_pos c3] at H
  have c3b0 : (a0_0 == a1_0) = true:=beq_iff_eq.mpr c3
  have c3b1 : (a0_0 != a1_0) = false:=bne_eq_false_iff_eq.mpr c3
  clear c3
  by_cases c4 : a0_1.toList = a1_1.toList
  ·rw [if_pos c4] at H
   have c4b0 : (a0_1.toList == a1_1.toList) = true:=beq_iff_eq.mpr c4
   have c4b1 : (a0_1.toList != a1_1.toList) = false:=bne_eq_false_iff_eq.mpr c4
   clear c4
   by_cases c5 : a0_2.toList = a1_2.toList
   ·rw [if_pos c5] at H
    have c5b0 : (a0_2.toList == a1_2.toList) = true:=beq_iff_eq.mpr c5
    have c5b1 : (a0_2.toList != a1_2.toList) = false:=bne_eq_false_iff_eq.mpr c5
    clear c5
    replace H:=Option.bind_eq_some_iff.mp H
    obtain ⟨t243,A60,H⟩:=H
    replace H : (if t243 = true then (if a0_4.toList = a1_4.toList then (some (a0_5.toList == a1_5.toList)) else (some false)) else (some false)) = some r:=H
    have A6:=As.mk A60
    clear A60
    by_cases c7 : t243 = true
    ·subst c7
     have H1 : (if a0_4.toList = a1_4.toList then (some (a0_5.toList == a1_5.toList)) else (some false)) = some r:=by rw [if_pos rfl] at H;exact H
     clear H
     have H:=H1
     clear H1
     by_cases c8 : a0_4.toList = a1_4.toList
     ·rw [if_pos c8] at H
      have c8b0 : (a0_4.toList == a1_4.toList) = true:=beq_iff_eq.mpr c8
      have c8b1 : (a0_4.toList != a1_4.toList) = false:=bne_eq_false_iff_eq.mpr c8
      clear c8
      obtain rfl:=Option.some.inj H
      go_enter Tryz.func76,Tryz.ntmps76
      go_wp2_with (first | ((with_reducible refine gate_dst (N:=2) rfl ?_);refine box_event ?hg (N:=2) ?hd (cs:=#[.int .i64 a0_0,.string a0_1,.string a0_2,.slice A0_3 l0_3.length c0_3,.string a0_4,.string a0_5]) (t:=34) ?hr ?_;(case hd=>rfl);(case hg=>rfl);(case hr=>first | (go_simp;done) | (go_simp;rfl));intro gb241 hg w9 hbox hb;have n0_:=As.mk (bS (by repeat (first | (with_reducible first | exact HB.out | apply bA | apply bN | apply bD) | exact HB.out)) hb);have n1_:=As.mk (hbox);have n2_:=As.mk ((by rw [hg];exact (bZ (by repeat (first | (with_reducible first | exact HB.out | apply bA | apply bN | apply bD) | exact HB.out))) : w.heap.size ≤ gb241));have n3_:=As.mk ((by rw [hg];exact (bZ (by repeat (first | (with_reducible first | exact HB.out | apply bA | apply bN | apply bD) | exact HB.out))) : w.heap.size ≤ gb241));clear HB;have HB:=n0_;have BK241:=n1_;have GW241:=n2_;have GE241:=n3_;clear n0_ n1_ n2_ n3_;clear hb hbox hg) | ((with_reducible refine gate_dst (N:=3) rfl ?_);refine box_event ?hg (N:=3) ?hd (cs:=#[.int .i64 a1_0,.string a1_1,.string a1_2,.slice A1_3 l1_3.length c1_3,.string a1_4,.string a1_5]) (t:=34) ?hr ?_;(case hd=>rfl);(case hg=>rfl);(case hr=>first | (go_simp;done) | (go_simp;rfl));intro gb242 hg w10 hbox hb;have n0_:=As.mk (blk_below (g:=gb241) (o:=.cells #[.int .i64 a0_0,.string a0_1,.string a0_2,.slice A0_3 l0_3.length c0_3,.string a0_4,.string a0_5] 34 (0,0)) (by (with_reducible repeat (first | refine kN ?_ _ | refine kD ?_ | refine kA ?_ _));exact BK241.out) hb);have n1_:=As.mk (bS (by repeat (first | (with_reducible first | exact HB.out | apply bA | apply bN | apply bD | refine bT ?_ GE241.out) | exact HB.out)) hb);have n2_:=As.mk (hbox);have n3_:=As.mk ((by rw [hg];exact (bZ (by repeat (first | (with_reducible first | exact HB.out | apply bA | apply bN | apply bD | refine bT ?_ GE241.out) | exact HB.out))) : w.heap.size ≤ gb242));have n4_:=As.mk ((by rw [hg];exact (bZ (by repeat (first | (with_reducible first | exact HB.out | apply bA | apply bN | apply bD | refine bT ?_ GE241.out) | exact HB.out))) : w.heap.size ≤ gb242));have n5_:=As.mk ((by rw [hg];exact Nat.ne_of_lt (blk_lt (g:=gb241) (o:=.cells #[.int .i64 a0_0,.string a0_1,.string a0_2,.slice A0_3 l0_3.length c0_3,.string a0_4,.string a0_5] 34 (0,0)) (by (with_reducible repeat (first | refine kN ?_ _ | refine kD ?_ | refine kA ?_ _));exact BK241.out)) : gb241 ≠ gb242));have n6_:=As.mk ((by rw [hg];exact Nat.ne_of_gt (blk_lt (g:=gb241) (o:=.cells #[.int .i64 a0_0,.string a0_1,.string a0_2,.slice A0_3 l0_3.length c0_3,.string a0_4,.string a0_5] 34 (0,0)) (by (with_reducible repeat (first | refine kN ?_ _ | refine kD ?_ | refine kA ?_ _));exact BK241.out)) : gb242 ≠ gb241));clear BK241;clear HB;have BK241:=n0_;have HB:=n1_;have BK242:=n2_;have GW242:=n3_;have GE242:=n4_;have NB241_242:=n5_;have NB242_241:=n6_;clear n0_ n1_ n2_ n3_ n4_ n5_ n6_;clear hb hbox hg;have hnb11:=NB241_242.out;have hnc11:=NB242_241.out;have hcz12_0 : w10.cell? ⟨gb241,0,none⟩ = some (.int .i64 a0_0):=(bC BK241.out 0).trans rfl;have hcz12_1 : w10.cell? ⟨gb241,1,none⟩ = some (.string a0_1):=(bC BK241.out 1).trans rfl;have hcz12_2 : w10.cell? ⟨gb241,2,none⟩ = some (.string a0_2):=(bC BK241.out 2).trans rfl;have hcz12_3 : w10.cell? ⟨gb241,3,none⟩ = some (.slice A0_3 l0_3.length c0_3):=(bC BK241.out 3).trans rfl;have hcz12_4 : w10.cell? ⟨gb241,4,none⟩ = some (.string a0_4):=(bC BK241.out 4).trans rfl;have hcz12_5 : w10.cell? ⟨gb241,5,none⟩ = some (.string a0_5):=(bC BK241.out 5).trans rfl;have hfz12_0:=bF BK241.out 0;have hfz12_1:=bF BK241.out 1;have hfz12_2:=bF BK241.out 2;have hfz12_3:=bF BK241.out 3;have hfz12_4:=bF BK241.out 4;have hfz12_5:=bF BK241.out 5;have hcz13_0 : w10.cell? ⟨gb242,0,none⟩ = some (.int .i64 a1_0):=(bC BK242.out 0).trans rfl;have hcz13_1 : w10.cell? ⟨gb242,1,none⟩ = some (.string a1_1):=(bC BK242.out 1).trans rfl;have hcz13_2 : w10.cell? ⟨gb242,2,none⟩ = some (.string a1_2):=(bC BK242.out 2).trans rfl;have hcz13_3 : w10.cell? ⟨gb242,3,none⟩ = some (.slice A1_3 l1_3.length c1_3):=(bC BK242.out 3).trans rfl;have hcz13_4 : w10.cell? ⟨gb242,4,none⟩ = some (.string a1_4):=(bC BK242.out 4).trans rfl;have hcz13_5 : w10.cell? ⟨gb242,5,none⟩ = some (.string a1_5):=(bC BK242.out 5).trans rfl;have hfz13_0:=bF BK242.out 0;have hfz13_1:=bF BK242.out 1;have hfz13_2:=bF BK242.out 2;have hfz13_3:=bF BK242.out 3;have hfz13_4:=bF BK242.out 4;have hfz13_5:=bF BK242.out 5) | (go_at_call 116;(with_reducible refine (sEs.calls k _ _ l0_3 _ _ l1_3 true _ ?side1 ?side2 ?side3 ?side4 A6.out).mono ?_);(case side1=>repeat (first | exact (Kd.C_below HR0_3.out HB.out) | (with_reducible refine Kd.C_alloc ?_ _) | (with_reducible refine Kd.C_drewN ?_ _) | (with_reducible refine Kd.C_drew ?_)));(case side2=>exact HC0_3.out);(case side3=>repeat (first | exact (Kd.C_below HR1_3.out HB.out) | (with_reducible refine Kd.C_alloc ?_ _) | (with_reducible refine Kd.C_drewN ?_ _) | (with_reducible refine Kd.C_drew ?_)));(case side4=>exact HC1_3.out);rintro e w' ⟨rfl,⟨nd,rfl⟩⟩))
      go_ret
      exact ⟨by first | rfl | (simp [eN,eS] <;> rfl) | (simp [*,eN,eS] <;> rfl),by repeat (first | (with_reducible first | exact HB.out | apply bA | apply bN | apply bD | refine bT ?_ GE241.out | refine bT ?_ GE242.out) | exact HB.out)⟩
     ·rw [if_neg c8] at H
      have c8b0 : (a0_4.toList == a1_4.toList) = false:=beq_eq_false_iff_ne.mpr c8
      have c8b1 : (a0_4.toList != a1_4.toList) = true:=bne_iff_ne.mpr c8
      obtain rfl:=Option.some.inj H
      go_enter Tryz.func76,Tryz.ntmps76
      go_wp2_with (first | ((with_reducible refine gate_dst (N:=2) rfl ?_);refine box_event ?hg (N:=2) ?hd (cs:=#[.int .i64 a0_0,.string a0_1,.string a0_2,.slice A0_3 l0_3.length c0_3,.string a0_4,.string a0_5]) (t:=34) ?hr ?_;(case hd=>rfl);(case hg=>rfl);(case hr=>first | (go_simp;done) | (go_simp;rfl));intro gb241 hg w14 hbox hb;have n0_:=As.mk (bS (by repeat (first | (with_reducible first | exact HB.out | apply bA | apply bN | apply bD) | exact HB.out)) hb);have n1_:=As.mk (hbox);have n2_:=As.mk ((by rw [hg];exact (bZ (by repeat (first | (with_reducible first | exact HB.out | apply bA | apply bN | apply bD) | exact HB.out))) : w.heap.size ≤ gb241));have n3_:=As.mk ((by rw [hg];exact (bZ (by repeat (first | (with_reducible first | exact HB.out | apply bA | apply bN | apply bD) | exact HB.out))) : w.heap.size ≤ gb241));clear HB;have HB:=n0_;have BK241:=n1_;have GW241:=n2_;have GE241:=n3_;clear n0_ n1_ n2_ n3_;clear hb hbox hg) | ((with_reducible refine gate_dst (N:=3) rfl ?_);refine box_event ?hg (N:=3) ?hd (cs:=#[.int .i64 a1_0,.string a1_1,.string a1_2,.slice A1_3 l1_3.length c1_3,.string a1_4,.string a1_5]) (t:=34) ?hr ?_;(case hd=>rfl);(case hg=>rfl);(case hr=>first | (go_simp;done) | (go_simp;rfl));intro gb242 hg w15 hbox hb;have n0_:=As.mk (blk_below (g:=gb241) (o:=.cells #[.int .i64 a0_0,.string a0_1,.string a0_2,.slice A0_3 l0_3.length c0_3,.string a0_4,.string a0_5] 34 (0,0)) (by (with_reducible repeat (first | refine kN ?_ _ | refine kD ?_ | refine kA ?_ _));exact BK241.out) hb);have n1_:=As.mk (bS (by repeat (first | (with_reducible first | exact HB.out | apply bA | apply bN | apply bD | refine bT ?_ GE241.out) | exact HB.out)) hb);have n2_:=As.mk (hbox);have n3_:=As.mk ((by rw [hg];exact (bZ (by repeat (first | (with_reducible first | exact HB.out | apply bA | apply bN | apply bD | refine bT ?_ GE241.out) | exact HB.out))) : w.heap.size ≤ gb242));have n4_:=As.mk ((by rw [hg];exact (bZ (by repeat (first | (with_reducible first | exact HB.out | apply bA | apply bN | apply bD | refine bT ?_ GE241.out) | exact HB.out))) : w.heap.size ≤ gb242));have n5_:=As.mk ((by rw [hg];exact Nat.ne_of_lt (blk_lt (g:=gb241) (o:=.cells #[.int .i64 a0_0,.string a0_1,.string a0_2,.slice A0_3 l0_3.length c0_3,.string a0_4,.string a0_5] 34 (0,0)) (by (with_reducible repeat (first | refine kN ?_ _ | refine kD ?_ | refine kA ?_ _));exact BK241.out)) : gb241 ≠ gb242));have n6_:=As.mk ((by rw [hg];exact Nat.ne_of_gt (blk_lt (g:=gb241) (o:=.cells #[.int .i64 a0_0,.string a0_1,.string a0_2,.slice A0_3 l0_3.length c0_3,.string a0_4,.string a0_5] 34 (0,0)) (by (with_reducible repeat (first | refine kN ?_ _ | refine kD ?_ | refine kA ?_ _));exact BK241.out)) : gb242 ≠ gb241));clear BK241;clear HB;have BK241:=n0_;have HB:=n1_;have BK242:=n2_;have GW242:=n3_;have GE242:=n4_;have NB241_242:=n5_;have NB242_241:=n6_;clear n0_ n1_ n2_ n3_ n4_ n5_ n6_;clear hb hbox hg;have hnb16:=NB241_242.out;have hnc16:=NB242_241.out;have hcz17_0 : w15.cell? ⟨gb241,0,none⟩ = some (.int .i64 a0_0):=(bC BK241.out 0).trans rfl;have hcz17_1 : w15.cell? ⟨gb241,1,none⟩ = some (.string a0_1):=(bC BK241.out 1).trans rfl;have hcz17_2 : w15.cell? ⟨gb241,2,none⟩ = some (.string a0_2):=(bC BK241.out 2).trans rfl;have hcz17_3 : w15.cell? ⟨gb241,3,none⟩ = some (.slice A0_3 l0_3.length c0_3):=(bC BK241.out 3).trans rfl;have hcz17_4 : w15.cell? ⟨gb241,4,none⟩ = some (.string a0_4):=(bC BK241.out 4).trans rfl;have hcz17_5 : w15.cell? ⟨gb241,5,none⟩ = some (.string a0_5):=(bC BK241.out 5).trans rfl;have hfz17_0:=bF BK241.out 0;have hfz17_1:=bF BK241.out 1;have hfz17_2:=bF BK241.out 2;have hfz17_3:=bF BK241.out 3;have hfz17_4:=bF BK241.out 4;have hfz17_5:=bF BK241.out 5;have hcz18_0 : w15.cell? ⟨gb242,0,none⟩ = some (.int .i64 a1_0):=(bC BK242.out 0).trans rfl;have hcz18_1 : w15.cell? ⟨gb242,1,none⟩ = some (.string a1_1):=(bC BK242.out 1).trans rfl;have hcz18_2 : w15.cell? ⟨gb242,2,none⟩ = some (.string a1_2):=(bC BK242.out 2).trans rfl;have hcz18_3 : w15.cell? ⟨gb242,3,none⟩ = some (.slice A1_3 l1_3.length c1_3):=(bC BK242.out 3).trans rfl;have hcz18_4 : w15.cell? ⟨gb242,4,none⟩ = some (.string a1_4):=(bC BK242.out 4).trans rfl;have hcz18_5 : w15.cell? ⟨gb242,5,none⟩ = some (.string a1_5):=(bC BK242.out 5).trans rfl;have hfz18_0:=bF BK242.out 0;have hfz18_1:=bF BK242.out 1;have hfz18_2:=bF BK242.out 2;have hfz18_3:=bF BK242.out 3;have hfz18_4:=bF BK242.out 4;have hfz18_5:=bF BK242.out 5) | (go_at_call 116;(with_reducible refine (sEs.calls k _ _ l0_3 _ _ l1_3 true _ ?side1 ?side2 ?side3 ?side4 A6.out).mono ?_);(case side1=>repeat (first | exact (Kd.C_below HR0_3.out HB.out) | (with_reducible refine Kd.C_alloc ?_ _) | (with_reducible refine Kd.C_drewN ?_ _) | (with_reducible refine Kd.C_drew ?_)));(case side2=>exact HC0_3.out);(case side3=>repeat (first | exact (Kd.C_below HR1_3.out HB.out) | (with_reducible refine Kd.C_alloc ?_ _) | (with_reducible refine Kd.C_drewN ?_ _) | (with_reducible refine Kd.C_drew ?_)));(case side4=>exact HC1_3.out);rintro e w' ⟨rfl,⟨nd,rfl⟩⟩))
      go_ret
      exact ⟨by first | rfl | (simp [eN,eS] <;> rfl) | (simp [*,eN,eS] <;> rfl),by repeat (first | (with_reducible first | exact HB.out | apply bA | apply bN | apply bD | refine bT ?_ GE241.out | refine bT ?_ GE242.out) | exact HB.out)⟩
    ·replace c7:=Bool.eq_false_iff.mpr c7
     subst c7
     have H1 : (some false) = some r:=by rw [if_neg (show ¬ (false = true) by decide)] at H;exact H
     clear H
     have H:=H1
     clear H1
     obtain rfl:=Option.some.inj H
     go_enter Tryz.func76,Tryz.ntmps76
     go_wp2_with (first | ((with_reducible refine gate_dst (N:=2) rfl ?_);refine box_event ?hg (N:=2) ?hd (cs:=#[.int .i64 a0_0,.string a0_1,.string a0_2,.slice A0_3 l0_3.length c0_3,.string a0_4,.string a0_5]) (t:=34) ?hr ?_;(case hd=>rfl);(case hg=>rfl);(case hr=>first | (go_simp;done) | (go_simp;rfl));intro gb241 hg w19 hbox hb;have n0_:=As.mk (bS (by repeat (first | (with_reducible first | exact HB.out | apply bA | apply bN | apply bD) | exact HB.out)) hb);have n1_:=As.mk (hbox);have n2_:=As.mk ((by rw [hg];exact (bZ (by repeat (first | (with_reducible first | exact HB.out | apply bA | apply bN | apply bD) | exact HB.out))) : w.heap.size ≤ gb241));have n3_:=As.mk ((by rw [hg];exact (bZ (by repeat (first | (with_reducible first | exact HB.out | apply bA | apply bN | apply bD) | exact HB.out))) : w.heap.size ≤ gb241));clear HB;have HB:=n0_;have BK241:=n1_;have GW241:=n2_;have GE241:=n3_;clear n0_ n1_ n2_ n3_;clear hb hbox hg) | ((with_reducible refine gate_dst (N:=3) rfl ?_);refine box_event ?hg (N:=3) ?hd (cs:=#[.int .i64 a1_0,.string a1_1,.string a1_2,.slice A1_3 l1_3.length c1_3,.string a1_4,.string a1_5]) (t:=34) ?hr ?_;(case hd=>rfl);(case hg=>rfl);(case hr=>first | (go_simp;done) | (go_simp;rfl));intro gb242 hg w20 hbox hb;have n0_:=As.mk (blk_below (g:=gb241) (o:=.cells #[.int .i64 a0_0,.string a0_1,.string a0_2,.slice A0_3 l0_3.length c0_3,.string a0_4,.string a0_5] 34 (0,0)) (by (with_reducible repeat (first | refine kN ?_ _ | refine kD ?_ | refine kA ?_ _));exact BK241.out) hb);have n1_:=As.mk (bS (by repeat (first | (with_reducible first | exact HB.out | apply bA | apply bN | apply bD | refine bT ?_ GE241.out) | exact HB.out)) hb);have n2_:=As.mk (hbox);have n3_:=As.mk ((by rw [hg];exact (bZ (by repeat (first | (with_reducible first | exact HB.out | apply bA | apply bN | apply bD | refine bT ?_ GE241.out) | exact HB.out))) : w.heap.size ≤ gb242));have n4_:=As.mk ((by rw [hg];exact (bZ (by repeat (first | (with_reducible first | exact HB.out | apply bA | apply bN | apply bD | refine bT ?_ GE241.out) | exact HB.out))) : w.heap.size ≤ gb242));have n5_:=As.mk ((by rw [hg];exact Nat.ne_of_lt (blk_lt (g:=gb241) (o:=.cells #[.int .i64 a0_0,.string a0_1,.string a0_2,.slice A0_3 l0_3.length c0_3,.string a0_4,.string a0_5] 34 (0,0)) (by (with_reducible repeat (first | refine kN ?_ _ | refine kD ?_ | refine kA ?_ _));exact BK241.out)) : gb241 ≠ gb242));have n6_:=As.mk ((by rw [hg];exact Nat.ne_of_gt (blk_lt (g:=gb241) (o:=.cells #[.int .i64 a0_0,.string a0_1,.string a0_2,.slice A0_3 l0_3.length c0_3,.string a0_4,.string a0_5] 34 (0,0)) (by (with_reducible repeat (first | refine kN ?_ _ | refine kD ?_ | refine kA ?_ _));exact BK241.out)) : gb242 ≠ gb241));clear BK241;clear HB;have BK241:=n0_;have HB:=n1_;have BK242:=n2_;have GW242:=n3_;have GE242:=n4_;have NB241_242:=n5_;have NB242_241:=n6_;clear n0_ n1_ n2_ n3_ n4_ n5_ n6_;clear hb hbox hg;have hnb21:=NB241_242.out;have hnc21:=NB242_241.out;have hcz22_0 : w20.cell? ⟨gb241,0,none⟩ = some (.int .i64 a0_0):=(bC BK241.out 0).trans rfl;have hcz22_1 : w20.cell? ⟨gb241,1,none⟩ = some (.string a0_1):=(bC BK241.out 1).trans rfl;have hcz22_2 : w20.cell? ⟨gb241,2,none⟩ = some (.string a0_2):=(bC BK241.out 2).trans rfl;have hcz22_3 : w20.cell? ⟨gb241,3,none⟩ = some (.slice A0_3 l0_3.length c0_3):=(bC BK241.out 3).trans rfl;have hcz22_4 : w20.cell? ⟨gb241,4,none⟩ = some (.string a0_4):=(bC BK241.out 4).trans rfl;have hcz22_5 : w20.cell? ⟨gb241,5,none⟩ = some (.string a0_5):=(bC BK241.out 5).trans rfl;have hfz22_0:=bF BK241.out 0;have hfz22_1:=bF BK241.out 1;have hfz22_2:=bF BK241.out 2;have hfz22_3:=bF BK241.out 3;have hfz22_4:=bF BK241.out 4;have hfz22_5:=bF BK241.out 5;have hcz23_0 : w20.cell? ⟨gb242,0,none⟩ = some (.int .i64 a1_0):=(bC BK242.out 0).trans rfl;have hcz23_1 : w20.cell? ⟨gb242,1,none⟩ = some (.string a1_1):=(bC BK242.out 1).trans rfl;have hcz23_2 : w20.cell? ⟨gb242,2,none⟩ = some (.string a1_2):=(bC BK242.out 2).trans rfl;have hcz23_3 : w20.cell? ⟨gb242,3,none⟩ = some (.slice A1_3 l1_3.length c1_3):=(bC BK242.out 3).trans rfl;have hcz23_4 : w20.cell? ⟨gb242,4,none⟩ = some (.string a1_4):=(bC BK242.out 4).trans rfl;have hcz23_5 : w20.cell? ⟨gb242,5,none⟩ = some (.string a1_5):=(bC BK242.out 5).trans rfl;have hfz23_0:=bF BK242.out 0;have hfz23_1:=bF BK242.out 1;have hfz23_2:=bF BK242.out 2;have hfz23_3:=bF BK242.out 3;have hfz23_4:=bF BK242.out 4;have hfz23_5:=bF BK242.out 5) | (go_at_call 116;(with_reducible refine (sEs.calls k _ _ l0_3 _ _ l1_3 false _ ?side1 ?side2 ?side3 ?side4 A6.out).mono ?_);(case side1=>repeat (first | exact (Kd.C_below HR0_3.out HB.out) | (with_reducible refine Kd.C_alloc ?_ _) | (with_reducible refine Kd.C_drewN ?_ _) | (with_reducible refine Kd.C_drew ?_)));(case side2=>exact HC0_3.out);(case side3=>repeat (first | exact (Kd.C_below HR1_3.out HB.out) | (with_reducible refine Kd.C_alloc ?_ _) | (with_reducible refine Kd.C_drewN ?_ _) | (with_reducible refine Kd.C_drew ?_)));(case side4=>exact HC1_3.out);rintro e w' ⟨rfl,⟨nd,rfl⟩⟩))
     go_ret
     exact ⟨by first | rfl | (simp [eN,eS] <;> rfl) | (simp [*,eN,eS] <;> rfl),by repeat (first | (with_reducible first | exact HB.out | apply bA | apply bN | apply bD | refine bT ?_ GE241.out | refine bT ?_ GE242.out) | exact HB.out)⟩
   ·rw [if_neg c5] at H
    have c5b0 : (a0_2.toList == a1_2.toList) = false:=beq_eq_false_iff_ne.mpr c5
    have c5b1 : (a0_2.toList != a1_2.toList) = true:=bne_iff_ne.mpr c5
    obtain rfl:=Option.some.inj H
    go_enter Tryz.func76,Tryz.ntmps76
    go_wp2_with (first | ((with_reducible refine gate_dst (N:=2) rfl ?_);refine box_event ?hg (N:=2) ?hd (cs:=#[.int .i64 a0_0,.string a0_1,.string a0_2,.slice A0_3 l0_3.length c0_3,.string a0_4,.string a0_5]) (t:=34) ?hr ?_;(case hd=>rfl);(case hg=>rfl);(case hr=>first | (go_simp;done) | (go_simp;rfl));intro gb241 hg w24 hbox hb;have n0_:=As.mk (bS (by repeat (first | (with_reducible first | exact HB.out | apply bA | apply bN | apply bD) | exact HB.out)) hb);have n1_:=As.mk (hbox);have n2_:=As.mk ((by rw [hg];exact (bZ (by repeat (first | (with_reducible first | exact HB.out | apply bA | apply bN | apply bD) | exact HB.out))) : w.heap.size ≤ gb241));have n3_:=As.mk ((by rw [hg];exact (bZ (by repeat (first | (with_reducible first | exact HB.out | apply bA | apply bN | apply bD) | exact HB.out))) : w.heap.size ≤ gb241));clear HB;have HB:=n0_;have BK241:=n1_;have GW241:=n2_;have GE241:=n3_;clear n0_ n1_ n2_ n3_;clear hb hbox hg) | ((with_reducible refine gate_dst (N:=3) rfl ?_);refine box_event ?hg (N:=3) ?hd (cs:=#[.int .i64 a1_0,.string a1_1,.string a1_2,.slice A1_3 l1_3.length c1_3,.string a1_4,.string a1_5]) (t:=34) ?hr ?_;(case hd=>rfl);(case hg=>rfl);(case hr=>first | (go_simp;done) | (go_simp;rfl));intro gb242 hg w25 hbox hb;have n0_:=As.mk (blk_below (g:=gb241) (o:=.cells #[.int .i64 a0_0,.string a0_1,.string a0_2,.slice A0_3 l0_3.length c0_3,.string a0_4,.string a0_5] 34 (0,0)) (by (with_reducible repeat (first | refine kN ?_ _ | refine kD ?_ | refine kA ?_ _));exact BK241.out) hb);have n1_:=As.mk (bS (by repeat (first | (with_reducible first | exact HB.out | apply bA | apply bN | apply bD | refine bT ?_ GE241.out) | exact HB.out)) hb);have n2_:=As.mk (hbox);have n3_:=As.mk ((by rw [hg];exact (bZ (by repeat (first | (with_reducible first | exact HB.out | apply bA | apply bN | apply bD | refine bT ?_ GE241.out) | exact HB.out))) : w.heap.size ≤ gb242));have n4_:=As.mk ((by rw [hg];exact (bZ (by repeat (first | (with_reducible first | exact HB.out | apply bA | apply bN | apply bD | refine bT ?_ GE241.out) | exact HB.out))) : w.heap.size ≤ gb242));have n5_:=As.mk ((by rw [hg];exact Nat.ne_of_lt (blk_lt (g:=gb241) (o:=.cells #[.int .i64 a0_0,.string a0_1,.string a0_2,.slice A0_3 l0_3.length c0_3,.string a0_4,.string a0_5] 34 (0,0)) (by (with_reducible repeat (first | refine kN ?_ _ | refine kD ?_ | refine kA ?_ _));exact BK241.out)) : gb241 ≠ gb242));have n6_:=As.mk ((by rw [hg];exact Nat.ne_of_gt (blk_lt (g:=gb241) (o:=.cells #[.int .i64 a0_0,.string a0_1,.string a0_2,.slice A0_3 l0_3.length c0_3,.string a0_4,.string a0_5] 34 (0,0)) (by (with_reducible repeat (first | refine kN ?_ _ | refine kD ?_ | refine kA ?_ _));exact BK241.out)) : gb242 ≠ gb241));clear BK241;clear HB;have BK241:=n0_;have HB:=n1_;have BK242:=n2_;have GW242:=n3_;have GE242:=n4_;have NB241_242:=n5_;have NB242_241:=n6_;clear n0_ n1_ n2_ n3_ n4_ n5_ n6_;clear hb hbox hg;have hnb26:=NB241_242.out;have hnc26:=NB242_241.out;have hcz27_0 : w25.cell? ⟨gb241,0,none⟩ = some (.int .i64 a0_0):=(bC BK241.out 0).trans rfl;have hcz27_1 : w25.cell? ⟨gb241,1,none⟩ = some (.string a0_1):=(bC BK241.out 1).trans rfl;have hcz27_2 : w25.cell? ⟨gb241,2,none⟩ = some (.string a0_2):=(bC BK241.out 2).trans rfl;have hcz27_3 : w25.cell? ⟨gb241,3,none⟩ = some (.slice A0_3 l0_3.length c0_3):=(bC BK241.out 3).trans rfl;have hcz27_4 : w25.cell? ⟨gb241,4,none⟩ = some (.string a0_4):=(bC BK241.out 4).trans rfl;have hcz27_5 : w25.cell? ⟨gb241,5,none⟩ = some (.string a0_5):=(bC BK241.out 5).trans rfl;have hfz27_0:=bF BK241.out 0;have hfz27_1:=bF BK241.out 1;have hfz27_2:=bF BK241.out 2;have hfz27_3:=bF BK241.out 3;have hfz27_4:=bF BK241.out 4;have hfz27_5:=bF BK241.out 5;have hcz28_0 : w25.cell? ⟨gb242,0,none⟩ = some (.int .i64 a1_0):=(bC BK242.out 0).trans rfl;have hcz28_1 : w25.cell? ⟨gb242,1,none⟩ = some (.string a1_1):=(bC BK242.out 1).trans rfl;have hcz28_2 : w25.cell? ⟨gb242,2,none⟩ = some (.string a1_2):=(bC BK242.out 2).trans rfl;have hcz28_3 : w25.cell? ⟨gb242,3,none⟩ = some (.slice A1_3 l1_3.length c1_3):=(bC BK242.out 3).trans rfl;have hcz28_4 : w25.cell? ⟨gb242,4,none⟩ = some (.string a1_4):=(bC BK242.out 4).trans rfl;have hcz28_5 : w25.cell? ⟨gb242,5,none⟩ = some (.string a1_5):=(bC BK242.out 5).trans rfl;have hfz28_0:=bF BK242.out 0;have hfz28_1:=bF BK242.out 1;have hfz28_2:=bF BK242.out 2;have hfz28_3:=bF BK242.out 3;have hfz28_4:=bF BK242.out 4;have hfz28_5:=bF BK242.out 5))
    go_ret
    exact ⟨by first | rfl | (simp [eN,eS] <;> rfl) | (simp [*,eN,eS] <;> rfl),by repeat (first | (with_reducible first | exact HB.out | apply bA | apply bN | apply bD | refine bT ?_ GE241.out | refine bT ?_ GE242.out) | exact HB.out)⟩
  ·rw [if_neg c4] at H
   have c4b0 : (a0_1.toList == a1_1.toList) = false:=beq_eq_false_iff_ne.mpr c4
   have c4b1 : (a0_1.toList != a1_1.toList) = true:=bne_iff_ne.mpr c4
   obtain rfl:=Option.some.inj H
   go_enter Tryz.func76,Tryz.ntmps76
   go_wp2_with (first | ((with_reducible refine gate_dst (N:=2) rfl ?_);refine box_event ?hg (N:=2) ?hd (cs:=#[.int .i64 a0_0,.string a0_1,.string a0_2,.slice A0_3 l0_3.length c0_3,.string a0_4,.string a0_5]) (t:=34) ?hr ?_;(case hd=>rfl);(case hg=>rfl);(case hr=>first | (go_simp;done) | (go_simp;rfl));intro gb241 hg w29 hbox hb;have n0_:=As.mk (bS (by repeat (first | (with_reducible first | exact HB.out | apply bA | apply bN | apply bD) | exact HB.out)) hb);have n1_:=As.mk (hbox);have n2_:=As.mk ((by rw [hg];exact (bZ (by repeat (first | (with_reducible first | exact HB.out | apply bA | apply bN | apply bD) | exact HB.out))) : w.heap.size ≤ gb241));have n3_:=As.mk ((by rw [hg];exact (bZ (by repeat (first | (with_reducible first | exact HB.out | apply bA | apply bN | apply bD) | exact HB.out))) : w.heap.size ≤ gb241));clear HB;have HB:=n0_;have BK241:=n1_;have GW241:=n2_;have GE241:=n3_;clear n0_ n1_ n2_ n3_;clear hb hbox hg) | ((with_reducible refine gate_dst (N:=3) rfl ?_);refine box_event ?hg (N:=3) ?hd (cs:=#[.int .i64 a1_0,.string a1_1,.string a1_2,.slice A1_3 l1_3.length c1_3,.string a1_4,.string a1_5]) (t:=34) ?hr ?_;(case hd=>rfl);(case hg=>rfl);(case hr=>first | (go_simp;done) | (go_simp;rfl));intro gb242 hg w30 hbox hb;have n0_:=As.mk (blk_below (g:=gb241) (o:=.cells #[.int .i64 a0_0,.string a0_1,.string a0_2,.slice A0_3 l0_3.length c0_3,.string a0_4,.string a0_5] 34 (0,0)) (by (with_reducible repeat (first | refine kN ?_ _ | refine kD ?_ | refine kA ?_ _));exact BK241.out) hb);have n1_:=As.mk (bS (by repeat (first | (with_reducible first | exact HB.out | apply bA | apply bN | apply bD | refine bT ?_ GE241.out) | exact HB.out)) hb);have n2_:=As.mk (hbox);have n3_:=As.mk ((by rw [hg];exact (bZ (by repeat (first | (with_reducible first | exact HB.out | apply bA | apply bN | apply bD | refine bT ?_ GE241.out) | exact HB.out))) : w.heap.size ≤ gb242));have n4_:=As.mk ((by rw [hg];exact (bZ (by repeat (first | (with_reducible first | exact HB.out | apply bA | apply bN | apply bD | refine bT ?_ GE241.out) | exact HB.out))) : w.heap.size ≤ gb242));have n5_:=As.mk ((by rw [hg];exact Nat.ne_of_lt (blk_lt (g:=gb241) (o:=.cells #[.int .i64 a0_0,.string a0_1,.string a0_2,.slice A0_3 l0_3.length c0_3,.string a0_4,.string a0_5] 34 (0,0)) (by (with_reducible repeat (first | refine kN ?_ _ | refine kD ?_ | refine kA ?_ _));exact BK241.out)) : gb241 ≠ gb242));have n6_:=As.mk ((by rw [hg];exact Nat.ne_of_gt (blk_lt (g:=gb241) (o:=.cells #[.int .i64 a0_0,.string a0_1,.string a0_2,.slice A0_3 l0_3.length c0_3,.string a0_4,.string a0_5] 34 (0,0)) (by (with_reducible repeat (first | refine kN ?_ _ | refine kD ?_ | refine kA ?_ _));exact BK241.out)) : gb242 ≠ gb241));clear BK241;clear HB;have BK241:=n0_;have HB:=n1_;have BK242:=n2_;have GW242:=n3_;have GE242:=n4_;have NB241_242:=n5_;have NB242_241:=n6_;clear n0_ n1_ n2_ n3_ n4_ n5_ n6_;clear hb hbox hg;have hnb31:=NB241_242.out;have hnc31:=NB242_241.out;have hcz32_0 : w30.cell? ⟨gb241,0,none⟩ = some (.int .i64 a0_0):=(bC BK241.out 0).trans rfl;have hcz32_1 : w30.cell? ⟨gb241,1,none⟩ = some (.string a0_1):=(bC BK241.out 1).trans rfl;have hcz32_2 : w30.cell? ⟨gb241,2,none⟩ = some (.string a0_2):=(bC BK241.out 2).trans rfl;have hcz32_3 : w30.cell? ⟨gb241,3,none⟩ = some (.slice A0_3 l0_3.length c0_3):=(bC BK241.out 3).trans rfl;have hcz32_4 : w30.cell? ⟨gb241,4,none⟩ = some (.string a0_4):=(bC BK241.out 4).trans rfl;have hcz32_5 : w30.cell? ⟨gb241,5,none⟩ = some (.string a0_5):=(bC BK241.out 5).trans rfl;have hfz32_0:=bF BK241.out 0;have hfz32_1:=bF BK241.out 1;have hfz32_2:=bF BK241.out 2;have hfz32_3:=bF BK241.out 3;have hfz32_4:=bF BK241.out 4;have hfz32_5:=bF BK241.out 5;have hcz33_0 : w30.cell? ⟨gb242,0,none⟩ = some (.int .i64 a1_0):=(bC BK242.out 0).trans rfl;have hcz33_1 : w30.cell? ⟨gb242,1,none⟩ = some (.string a1_1):=(bC BK242.out 1).trans rfl;have hcz33_2 : w30.cell? ⟨gb242,2,none⟩ = some (.string a1_2):=(bC BK242.out 2).trans rfl;have hcz33_3 : w30.cell? ⟨gb242,3,none⟩ = some (.slice A1_3 l1_3.length c1_3):=(bC BK242.out 3).trans rfl;have hcz33_4 : w30.cell? ⟨gb242,4,none⟩ = some (.string a1_4):=(bC BK242.out 4).trans rfl;have hcz33_5 : w30.cell? ⟨gb242,5,none⟩ = some (.string a1_5):=(bC BK242.out 5).trans rfl;have hfz33_0:=bF BK242.out 0;have hfz33_1:=bF BK242.out 1;have hfz33_2:=bF BK242.out 2;have hfz33_3:=bF BK242.out 3;have hfz33_4:=bF BK242.out 4;have hfz33_5:=bF BK242.out 5))
   go_ret
   exact ⟨by first | rfl | (simp [eN,eS] <;> rfl) | (simp [*,eN,eS] <;> rfl),by repeat (first | (with_reducible first | exact HB.out | apply bA | apply bN | apply bD | refine bT ?_ GE241.out | refine bT ?_ GE242.out) | exact HB.out)⟩
 ·rw [if_neg c3] at H
  have c3b0 : (a0_0 == a1_0) = false:=beq_eq_false_iff_ne.mpr c3
  have c3b1 : (a0_0 != a1_0) = true:=bne_iff_ne.mpr c3
  obtain rfl:=Option.some.inj H
  go_enter Tryz.func76,Tryz.ntmps76
  go_wp2_with (first | ((with_reducible refine gate_dst (N:=2) rfl ?_);refine box_event ?hg (N:=2) ?hd (cs:=#[.int .i64 a0_0,.string a0_1,.string a0_2,.slice A0_3 l0_3.length c0_3,.string a0_4,.string a0_5]) (t:=34) ?hr ?_;(case hd=>rfl);(case hg=>rfl);(case hr=>first | (go_simp;done) | (go_simp;rfl));intro gb241 hg w34 hbox hb;have n0_:=As.mk (bS (by repeat (first | (with_reducible first | exact HB.out | apply bA | apply bN | apply bD) | exact HB.out)) hb);have n1_:=As.mk (hbox);have n2_:=As.mk ((by rw [hg];exact (bZ (by repeat (first | (with_reducible first | exact HB.out | apply bA | apply bN | apply bD) | exact HB.out))) : w.heap.size ≤ gb241));have n3_:=As.mk ((by rw [hg];exact (bZ (by repeat (first | (with_reducible first | exact HB.out | apply bA | apply bN | apply bD) | exact HB.out))) : w.heap.size ≤ gb241));clear HB;have HB:=n0_;have BK241:=n1_;have GW241:=n2_;have GE241:=n3_;clear n0_ n1_ n2_ n3_;clear hb hbox hg) | ((with_reducible refine gate_dst (N:=3) rfl ?_);refine box_event ?hg (N:=3) ?hd (cs:=#[.int .i64 a1_0,.string a1_1,.string a1_2,.slice A1_3 l1_3.length c1_3,.string a1_4,.string a1_5]) (t:=34) ?hr ?_;(case hd=>rfl);(case hg=>rfl);(case hr=>first | (go_simp;done) | (go_simp;rfl));intro gb242 hg w35 hbox hb;have n0_:=As.mk (blk_below (g:=gb241) (o:=.cells #[.int .i64 a0_0,.string a0_1,.string a0_2,.slice A0_3 l0_3.length c0_3,.string a0_4,.string a0_5] 34 (0,0)) (by (with_reducible repeat (first | refine kN ?_ _ | refine kD ?_ | refine kA ?_ _));exact BK241.out) hb);have n1_:=As.mk (bS (by repeat (first | (with_reducible first | exact HB.out | apply bA | apply bN | apply bD | refine bT ?_ GE241.out) | exact HB.out)) hb);have n2_:=As.mk (hbox);have n3_:=As.mk ((by rw [hg];exact (bZ (by repeat (first | (with_reducible first | exact HB.out | apply bA | apply bN | apply bD | refine bT ?_ GE241.out) | exact HB.out))) : w.heap.size ≤ gb242));have n4_:=As.mk ((by rw [hg];exact (bZ (by repeat (first | (with_reducible first | exact HB.out | apply bA | apply bN | apply bD | refine bT ?_ GE241.out) | exact HB.out))) : w.heap.size ≤ gb242));have n5_:=As.mk ((by rw [hg];exact Nat.ne_of_lt (blk_lt (g:=gb241) (o:=.cells #[.int .i64 a0_0,.string a0_1,.string a0_2,.slice A0_3 l0_3.length c0_3,.string a0_4,.string a0_5] 34 (0,0)) (by (with_reducible repeat (first | refine kN ?_ _ | refine kD ?_ | refine kA ?_ _));exact BK241.out)) : gb241 ≠ gb242));have n6_:=As.mk ((by rw [hg];exact Nat.ne_of_gt (blk_lt (g:=gb241) (o:=.cells #[.int .i64 a0_0,.string a0_1,.string a0_2,.slice A0_3 l0_3.length c0_3,.string a0_4,.string a0_5] 34 (0,0)) (by (with_reducible repeat (first | refine kN ?_ _ | refine kD ?_ | refine kA ?_ _));exact BK241.out)) : gb242 ≠ gb241));clear BK241;clear HB;have BK241:=n0_;have HB:=n1_;have BK242:=n2_;have GW242:=n3_;have GE242:=n4_;have NB241_242:=n5_;have NB242_241:=n6_;clear n0_ n1_ n2_ n3_ n4_ n5_ n6_;clear hb hbox hg;have hnb36:=NB241_242.out;have hnc36:=NB242_241.out;have hcz37_0 : w35.cell? ⟨gb241,0,none⟩ = some (.int .i64 a0_0):=(bC BK241.out 0).trans rfl;have hcz37_1 : w35.cell? ⟨gb241,1,none⟩ = some (.string a0_1):=(bC BK241.out 1).trans rfl;have hcz37_2 : w35.cell? ⟨gb241,2,none⟩ = some (.string a0_2):=(bC BK241.out 2).trans rfl;have hcz37_3 : w35.cell? ⟨gb241,3,none⟩ = some (.slice A0_3 l0_3.length c0_3):=(bC BK241.out 3).trans rfl;have hcz37_4 : w35.cell? ⟨gb241,4,none⟩ = some (.string a0_4):=(bC BK241.out 4).trans rfl;have hcz37_5 : w35.cell? ⟨gb241,5,none⟩ = some (.string a0_5):=(bC BK241.out 5).trans rfl;have hfz37_0:=bF BK241.out 0;have hfz37_1:=bF BK241.out 1;have hfz37_2:=bF BK241.out 2;have hfz37_3:=bF BK241.out 3;have hfz37_4:=bF BK241.out 4;have hfz37_5:=bF BK241.out 5;have hcz38_0 : w35.cell? ⟨gb242,0,none⟩ = some (.int .i64 a1_0):=(bC BK242.out 0).trans rfl;have hcz38_1 : w35.cell? ⟨gb242,1,none⟩ = some (.string a1_1):=(bC BK242.out 1).trans rfl;have hcz38_2 : w35.cell? ⟨gb242,2,none⟩ = some (.string a1_2):=(bC BK242.out 2).trans rfl;have hcz38_3 : w35.cell? ⟨gb242,3,none⟩ = some (.slice A1_3 l1_3.length c1_3):=(bC BK242.out 3).trans rfl;have hcz38_4 : w35.cell? ⟨gb242,4,none⟩ = some (.string a1_4):=(bC BK242.out 4).trans rfl;have hcz38_5 : w35.cell? ⟨gb242,5,none⟩ = some (.string a1_5):=(bC BK242.out 5).trans rfl;have hfz38_0:=bF BK242.out 0;have hfz38_1:=bF BK242.out 1;have hfz38_2:=bF BK242.out 2;have hfz38_3:=bF BK242.out 3;have hfz38_4:=bF BK242.out 4;have hfz38_5:=bF BK242.out 5))
  go_ret
  exact ⟨by first | rfl | (simp [eN,eS] <;> rfl) | (simp [*,eN,eS] <;> rfl),by repeat (first | (with_reducible first | exact HB.out | apply bA | apply bN | apply bD | refine bT ?_ GE241.out | refine bT ?_ GE242.out) | exact HB.out)⟩
/-! ### cmp_isNaN_string: function 176 -/
/-! ### cmp_Less_string: function 155 -/
end Go.Proofs.YtmlebgikdegjjaaGreatDoor.PAll
