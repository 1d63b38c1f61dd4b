import Derived.Test.YtmlebgikdegjjaaGreatDoorPAllx0
import Derived.Test.YtmlebgikdegjjaaGreatDoorPAllx0
import Derived.Test.YtmlebgikdegjjaaGreatDoorPAllx0
import Derived.Test.YtmlebgikdegjjaaGreatDoorPAllx3
import Derived.Test.YtmlebgikdegjjaaGreatDoorPAllx0
import Derived.Test.YtmlebgikdegjjaaGreatDoorPAllx3
import Derived.Test.YtmlebgikdegjjaaGreatDoorPAllx0
import Derived.Test.YtmlebgikdegjjaaGreatDoorPAllx3
import Derived.Test.YtmlebgikdegjjaaGreatDoorPAllx0
import Derived.Test.YtmlebgikdegjjaaGreatDoorPAllx0
import Derived.Test.YtmlebgikdegjjaaGreatDoorPAllx0
import Derived.Test.YtmlebgikdegjjaaGreatDoorPAllx3
import Derived.Test.YtmlebgikdegjjaaGreatDoorPAllx0
import Derived.Test.YtmlebgikdegjjaaGreatDoorPAllx3
import Derived.Test.YtmlebgikdegjjaaGreatDoorPAllx0
import Derived.Test.YtmlebgikdegjjaaGreatDoorPAllx3
set_option maxHeartbeats 8000000
set_option maxRecDepth 100000
namespace Go.Proofs.YtmlebgikdegjjaaGreatDoor.PAll
open Go.RowKit Go.Proofs.YtmlebgikdegjjaaGreatDoorW.PrintWords Go.Proofs.YtmlebgikdegjjaaGreatDoorW.PrintLast Go.Proofs.YtmlebgikdegjjaaGreatDoorW.PrintMore
attribute [local go_sem] max2_int min2_int max_two min_two max_three min_three max_four min_four   -- for this text's walks alone
set_option linter.unusedVariables false
set_option linter.unusedSimpArgs false
/-! ### diff_Keys: function 57 -/
def diff_Keys.l0 : Nat → List ByteArray → List (S82) → Int → Int → Option (List ByteArray)
 | 0,_,_,_,_=>none
 | k + 1,x3,x6,x7,x8=>if x8 < x7 then (if 0 ≤ x8 then (if x8 < (x6.length : Int) then (if x3.length < 8796093022208 then (diff_Keys.l0 k (x3 ++ [(rd_T82 x6 x8).f0]) x6 x7 (wrap64 (x8 + 1))) else (none)) else (none)) else (none)) else (some x3)
def diff_Keys.f (k : Nat) (l0 : List (S82)) : Option (List ByteArray):=diff_Keys.l0 k ([] : List ByteArray) l0 (l0.length : Int) 0
theorem diff_Keys.mono_l : ∀ k,(∀ y0 y1 y2 y3,LeO (diff_Keys.l0 k y0 y1 y2 y3) (diff_Keys.l0 (k + 1) y0 y1 y2 y3))
 | 0=>fun _ _ _ _ r h=>by simp [diff_Keys.l0] at h
 | k + 1=>by
  have ih0:=diff_Keys.mono_l k
  ·intro y0 y1 y2 y3
   unfold diff_Keys.l0
   repeat' first
   | (with_reducible exact ih0 _ _ _ _)
   | (with_reducible exact LeO.refl _)
   | (with_reducible exact LeO.none _)
   | (with_reducible refine LeO.ite ?_ ?_)
   | (with_reducible refine LeO.bind ?_ (fun _=>?_))
   | exact ih0 _ _ _ _
   | exact LeO.none _
   | refine LeO.ite ?_ ?_
   | refine LeO.bind ?_ (fun _=>?_)
theorem diff_Keys.mono : ∀ a0 k,LeO (diff_Keys.f k a0) (diff_Keys.f (k + 1) a0):=by
 intro a0 k
 have ih0:=diff_Keys.mono_l k
 unfold diff_Keys.f
 repeat' first
   | (with_reducible exact ih0 _ _ _ _)
   | (with_reducible exact LeO.refl _)
   | (with_reducible exact LeO.none _)
   | (with_reducible refine LeO.ite ?_ ?_)
   | (with_reducible refine LeO.bind ?_ (fun _=>?_))
   | exact ih0 _ _ _ _
   | exact LeO.none _
   | refine LeO.ite ?_ ?_
   | refine LeO.bind ?_ (fun _=>?_)
theorem diff_Keys.calls (k : Nat) (A0 : Option Addr) (c0 : Nat) (l0 : List (S82)) (r : List ByteArray) (w : World) (hr0 : Kd.C k82 w A0 l0.length l0) (hc0 : l0.length ≤ c0) (h : diff_Keys.f k l0 = some r) :
  Calls Tryz.prog 57 #[.slice A0 l0.length c0] w fun e w'=>∃ v0_ : Value,e = .returned (v0_) ∧ Kd.R Kd.string 9 w' w.heap.size (fun _=>True) v0_ r ∧ Below w.heap.size w w':=by
 have hu82:=Tryz.underlying82
 have HR0:=As.mk hr0
 have HC0:=As.mk hc0
 clear hr0 hc0
 have HB:=As.mk (Below.refl w.heap.size w)
 have H : (diff_Keys.l0 k ([] : List ByteArray) l0 (l0.length : Int) 0) = some r:=h
 clear h
 have H':=As.mk H
 clear H
 go_enter Tryz.func57,Tryz.ntmps57
 go_wp2
 go_loopg [3,8] k (fun kq v3 v8 w'=>∃ (x3_1 : List ByteArray) (x8_1 : Int),v8 = .int .i64 x8_1 ∧ As (diff_Keys.l0 kq x3_1 l0 (l0.length : Int) x8_1 = some r) ∧ As (kq ≤ k) ∧ As (Kd.R Kd.string 9 w' w.heap.size (fun _=>True) v3 x3_1) ∧ As (Below w.heap.size w w'))
 case atStart=>exact ⟨(([] : List ByteArray)),(0),(by first | rfl | (simp;done) | (simp [*];done)),H',⟨Nat.le_refl _⟩,⟨by first | exact Kd.R_nil _ _ _ _ _ | exact Kd.N_nil _ _ _ _ _ | exact Kd.V_nil _ _ _ _ _ | exact Kd.Q_nil _ _ _ _ _ | exact Kd.S_nil _ _ _ _ _⟩,⟨by repeat (first | (with_reducible first | exact HB.out | apply bA | apply bN | apply bD) | exact HB.out)⟩⟩
 case round =>
  clear H'
  obtain ⟨x3_1,x8_1,rfl,HA,HK1,HO_3,HB⟩:=hrel
  cases gk with
  | zero=>exact absurd HA.out (by simp [diff_Keys.l0])
  | succ k1 =>
   have H:=HA.out
   clear HA
   simp only [diff_Keys.l0] at H
   by_cases c2 : x8_1 < (l0.length : Int)
   ·rw [if_pos c2] at H
    have c2b0 : decide (x8_1 < (l0.length : Int)) = true:=decide_eq_true c2
    clear c2
    by_cases c3 : 0 ≤ x8_1
    ·rw [if_pos c3] at H
     have c3b0 : decide (0 ≤ x8_1) = true:=decide_eq_true c3
     clear c3
     by_cases c4 : x8_1 < (l0.length : Int)
     ·rw [if_pos c4] at H
      have c4b0 : decide (x8_1 < (l0.length : Int)) = true:=decide_eq_true c4
      clear c4
      by_cases c5 : x3_1.length < 8796093022208
      ·rw [if_pos c5] at H
       have LMc5:=As.mk c5
       clear c5
       obtain ⟨y486,hy486⟩ : ∃ y_ : List ByteArray,y_ = (x3_1 ++ [(rd_T82 l0 x8_1).f0]):=⟨_,rfl⟩
       replace H : (diff_Keys.l0 k1 y486 l0 (l0.length : Int) (wrap64 (x8_1 + 1))) = some r:=by first | (rw [hy486];with_reducible exact H) | (have H2_:=(Option.bind_some _ _).symm.trans H;rw [hy486];with_reducible exact H2_) | (have H2_:=(Option.bind_some _ _).symm.trans H;with_reducible exact H2_) | with_reducible exact H | (rw [hy486];exact H) | exact H
       have Ny486:=As.mk hy486
       clear hy486
       have H':=As.mk H
       clear H
       have p484 : 0 ≤ (x8_1 : Int):=of_decide_eq_true (by first | (with_reducible assumption) | assumption)
       have q484 : x8_1 < (l0.length : Int):=of_decide_eq_true (by first | (with_reducible assumption) | assumption)
       obtain ⟨ad484,A484_1,c484_1,A484_2,c484_2,e484,hx484_0,hx484_1,hx484_2,hl484_1,hi484_1,hl484_2,hi484_2⟩:=at_T82 HR0.out x8_1 p484 q484
       cases e484
       replace hx484_0:=(HB.out.cell (World.block_lt_of_cell? w _ hx484_0)).trans hx484_0
       replace hx484_1:=(HB.out.cell (World.block_lt_of_cell? w _ hx484_1)).trans hx484_1
       replace hx484_2:=(HB.out.cell (World.block_lt_of_cell? w _ hx484_2)).trans hx484_2
       have HR484_1:=As.mk hi484_1
       have HC484_1:=As.mk hl484_1
       clear hi484_1 hl484_1
       have HR484_2:=As.mk hi484_2
       have HC484_2:=As.mk hl484_2
       clear hi484_2 hl484_2
       replace p484:=eq_true p484
       replace q484:=eq_true q484
       go_wp2_with (first | ((with_reducible refine gate_dst (N:=5) rfl ?_);refine box_event ?hg (N:=5) ?hd (cs:=#[.string (⟨#[]⟩ : ByteArray),.slice none 0 0,.slice none 0 0]) (t:=82) ?hr ?_;(case hd=>rfl);(case hg=>rfl);(case hr=>first | (go_simp;done) | (go_simp;rfl));intro gb485 hg w6 hbox hb;have n0_:=As.mk (Kd.R_below (by (with_reducible repeat (first | apply Kd.R_alloc | apply Kd.R_drewN | apply Kd.R_drew));exact HO_3.out) hb);have n1_:=As.mk (bS (by repeat (first | (with_reducible first | exact HB.out | apply bA | apply bN | apply bD) | exact HB.out)) hb);have n2_:=As.mk (hbox);have n3_:=As.mk ((by rw [hg];exact (bZ (by repeat (first | (with_reducible first | exact HB.out | apply bA | apply bN | apply bD) | exact HB.out))) : w.heap.size ≤ gb485));have n4_:=As.mk ((by rw [hg];exact (bZ (by repeat (first | (with_reducible first | exact HB.out | apply bA | apply bN | apply bD) | exact HB.out))) : w.heap.size ≤ gb485));clear HO_3;clear HB;have HO_3:=n0_;have HB:=n1_;have BK485:=n2_;have GW485:=n3_;have GE485:=n4_;clear n0_ n1_ n2_ n3_ n4_;clear hb hbox hg;have hcz7_0 : w6.cell? ⟨gb485,0,none⟩ = some (.string (⟨#[]⟩ : ByteArray)):=(bC BK485.out 0).trans rfl;have hcz7_1 : w6.cell? ⟨gb485,1,none⟩ = some (.slice none 0 0):=(bC BK485.out 1).trans rfl;have hcz7_2 : w6.cell? ⟨gb485,2,none⟩ = some (.slice none 0 0):=(bC BK485.out 2).trans rfl;have hfz7_0:=bF BK485.out 0;have hfz7_1:=bF BK485.out 1;have hfz7_2:=bF BK485.out 2) | ((with_reducible refine gB (b:=.append) (xs:=#[.tmp 12,.tmp 15]) rfl ?_);at_builtin;refine Kd.R_append Kd.string (w0:=w) w.heap.size rfl (.tmp 12) (.tmp 15) 32 9 (.string ⟨#[]⟩) 16 rfl Tryz.underlying32 info9 rfl (by decide) (by omega) u3 x3_1 ((rd_T82 l0 x8_1).f0) [.string ((rd_T82 l0 x8_1).f0)] (fun _=>True) (fun _=>False) rfl (by first | (go_simp;done) | (go_simp;rfl)) ?aP (fun _ hk=>hk.elim) ?aF ?aO ?aB ?aS ?aL ?_;(case aP=>exact rfl);(case aB=>exact (by repeat (first | (with_reducible first | exact HB.out | apply bA | apply bN | apply bD | refine bT ?_ GE485.out) | exact HB.out)));(case aF=>exact (fun _ _=>trivial));(case aO=>exact (by (with_reducible repeat (first | apply Kd.R_alloc | apply Kd.R_drewN | apply Kd.R_drew));exact Kd.R_mono (Kd.R_far (p:=⟨gb485,2,none⟩) (Kd.R_far (p:=⟨gb485,1,none⟩) (Kd.R_far (p:=⟨gb485,0,none⟩) (Kd.R_types HO_3.out BK485.out (by decide)) (fun _ hk=>hk.2) (.string ((rd_T82 l0 x8_1).f0))) (fun _ hk=>hk.2) (.slice A484_1 ((rd_T82 l0 x8_1).f1).length c484_1)) (fun _ hk=>hk.2) (.slice A484_2 ((rd_T82 l0 x8_1).f2).length c484_2)) (fun _ hk=>trivial)));(case aS=>exact (bZ (by repeat (first | (with_reducible first | exact HB.out | apply bA | apply bN | apply bD | refine bT ?_ GE485.out) | exact HB.out))));(case aL=>have:=LMc5.out;omega);intro v487 w8 ho hb hg hat;rw [← Ny486.out] at ho;have n0_:=As.mk (blk_grown (g:=gb485) (o:=.cells #[.string ((rd_T82 l0 x8_1).f0),.slice A484_1 ((rd_T82 l0 x8_1).f1).length c484_1,.slice A484_2 ((rd_T82 l0 x8_1).f2).length c484_2] 82 (0,0)) (by (with_reducible repeat (first | refine kN ?_ _ | refine kD ?_ | refine kA ?_ _));refine blk_put (cs:=#[.string ((rd_T82 l0 x8_1).f0),.slice A484_1 ((rd_T82 l0 x8_1).f1).length c484_1,.slice none 0 0]) ?_ 2 _ rfl;(with_reducible repeat (first | refine kN ?_ _ | refine kD ?_ | refine kA ?_ _));refine blk_put (cs:=#[.string ((rd_T82 l0 x8_1).f0),.slice none 0 0,.slice none 0 0]) ?_ 1 _ rfl;(with_reducible repeat (first | refine kN ?_ _ | refine kD ?_ | refine kA ?_ _));refine blk_put (cs:=#[.string (⟨#[]⟩ : ByteArray),.slice none 0 0,.slice none 0 0]) ?_ 0 _ rfl;(with_reducible repeat (first | refine kN ?_ _ | refine kD ?_ | refine kA ?_ _));exact BK485.out) hg (Kd.R_ne HO_3.out BK485.out (by decide)));have n1_:=As.mk (hb);have n2_:=As.mk (ho);clear BK485;clear HB;clear HO_3;have BK485:=n0_;have HB:=n1_;have HO488:=n2_;clear n0_ n1_ n2_;clear ho hb hg hat))
       go_roundg k1
       case measure=>have:=HK1.out;omega
       case rel=>exact ⟨(y486),(wrap64 (x8_1 + 1)),(by first | rfl | (simp;done) | (simp [*];done)),H',⟨by have:=HK1.out;omega⟩,⟨by (with_reducible repeat (first | apply Kd.R_alloc | apply Kd.R_drewN | apply Kd.R_drew));exact HO488.out⟩,⟨by repeat (first | (with_reducible first | exact HB.out | apply bA | apply bN | apply bD | refine bT ?_ GE485.out) | exact HB.out)⟩⟩
      ·rw [if_neg c5] at H
       exact absurd H (by simp)
     ·rw [if_neg c4] at H
      exact absurd H (by simp)
    ·rw [if_neg c3] at H
     exact absurd H (by simp)
   ·rw [if_neg c2] at H
    have c2b0 : decide (x8_1 < (l0.length : Int)) = false:=decide_eq_false c2
    clear c2
    obtain rfl:=Option.some.inj H
    go_wp2
    go_ret
    exact ⟨_,by first | rfl | (simp [eN,eS] <;> rfl) | (simp [*,eN,eS] <;> rfl),by (with_reducible repeat (first | apply Kd.R_alloc | apply Kd.R_drewN | apply Kd.R_drew));exact HO_3.out,by repeat (first | (with_reducible first | exact HB.out | apply bA | apply bN | apply bD) | exact HB.out)⟩
/-! ### r09_side: function 89 -/
end Go.Proofs.YtmlebgikdegjjaaGreatDoor.PAll
