import Derived.Test.YtmlebgikdegjjaaGreatDoorPAllx0
set_option maxHeartbeats 8000000
set_option maxRecDepth 100000
namespace Go.Proofs.YtmlebgikdegjjaaGreatDoor.PAll
open Go.RowKit Go.Proofs.YtmlebgikdegjjaaGreatDoorW.PrintWords Go.Proofs.YtmlebgikdegjjaaGreatDoorW.PrintLast Go.Proofs.YtmlebgikdegjjaaGreatDoorW.PrintMore
attribute [local go_sem] max2_int min2_int max_two min_two max_three min_three max_four min_four   -- for this text's walks alone
set_option linter.unusedVariables false
set_option linter.unusedSimpArgs false
/-! ### r07_Small: function 19 -/
mutual
def r07_Small.j0 : Nat → Bool → Int → ByteArray → ByteArray → List ByteArray → ByteArray → ByteArray → Option (Bool)
 | 0,_,_,_,_,_,_,_=>none
 | k + 1,x31,x153000,x153001,x153002,x153003,x153004,x153005=>if x31 = true then (some false) else (r07_Small.l0 k 0 x153000 x153001 x153002 x153003 x153004 x153005)
def r07_Small.l0 : Nat → Int → Int → ByteArray → ByteArray → List ByteArray → ByteArray → ByteArray → Option (Bool)
 | 0,_,_,_,_,_,_,_=>none
 | k + 1,x3,x153000,x153001,x153002,x153003,x153004,x153005=>if x3 < (x153003.length : Int) then (if 0 ≤ x3 then (if ((rdOf ByteArray.empty x153003 x3).size : Int) > 100 then (some false) else (r07_Small.l0 k (wrap64 (x3 + 1)) x153000 x153001 x153002 x153003 x153004 x153005)) else (none)) else (some true)
end
def r07_Small.f (k : Nat) (a0_0 : Int) (a0_1 : ByteArray) (a0_2 : ByteArray) (l0_3 : List ByteArray) (a0_4 : ByteArray) (a0_5 : ByteArray) : Option (Bool):=if (a0_1.size : Int) > 100 then (r07_Small.j0 k true a0_0 a0_1 a0_2 l0_3 a0_4 a0_5) else (if (a0_2.size : Int) > 100 then (r07_Small.j0 k true a0_0 a0_1 a0_2 l0_3 a0_4 a0_5) else (if (l0_3.length : Int) > 30 then (r07_Small.j0 k true a0_0 a0_1 a0_2 l0_3 a0_4 a0_5) else (if (a0_4.size : Int) > 600 then (r07_Small.j0 k true a0_0 a0_1 a0_2 l0_3 a0_4 a0_5) else (r07_Small.j0 k (decide ((a0_5.size : Int) > 5000)) a0_0 a0_1 a0_2 l0_3 a0_4 a0_5))))
theorem r07_Small.mono_l : ∀ k,(∀ y0 y1 y2 y3 y4 y5 y6,LeO (r07_Small.j0 k y0 y1 y2 y3 y4 y5 y6) (r07_Small.j0 (k + 1) y0 y1 y2 y3 y4 y5 y6)) ∧ (∀ y0 y1 y2 y3 y4 y5 y6,LeO (r07_Small.l0 k y0 y1 y2 y3 y4 y5 y6) (r07_Small.l0 (k + 1) y0 y1 y2 y3 y4 y5 y6))
 | 0=>⟨fun _ _ _ _ _ _ _ r h=>by simp [r07_Small.j0] at h,fun _ _ _ _ _ _ _ r h=>by simp [r07_Small.l0] at h⟩
 | k + 1=>by
  obtain ⟨ih0,ih1⟩:=r07_Small.mono_l k
  refine ⟨?_,?_⟩
  ·intro y0 y1 y2 y3 y4 y5 y6
   unfold r07_Small.j0
   repeat' first
   | (with_reducible exact ih0 _ _ _ _ _ _ _)
   | (with_reducible exact ih1 _ _ _ _ _ _ _)
   | (with_reducible exact LeO.refl _)
   | (with_reducible exact LeO.none _)
   | (with_reducible refine LeO.ite ?_ ?_)
   | (with_reducible refine LeO.bind ?_ (fun _=>?_))
   | exact ih0 _ _ _ _ _ _ _
   | exact ih1 _ _ _ _ _ _ _
   | exact LeO.none _
   | refine LeO.ite ?_ ?_
   | refine LeO.bind ?_ (fun _=>?_)
  ·intro y0 y1 y2 y3 y4 y5 y6
   unfold r07_Small.l0
   repeat' first
   | (with_reducible exact ih0 _ _ _ _ _ _ _)
   | (with_reducible exact ih1 _ _ _ _ _ _ _)
   | (with_reducible exact LeO.refl _)
   | (with_reducible exact LeO.none _)
   | (with_reducible refine LeO.ite ?_ ?_)
   | (with_reducible refine LeO.bind ?_ (fun _=>?_))
   | exact ih0 _ _ _ _ _ _ _
   | exact ih1 _ _ _ _ _ _ _
   | exact LeO.none _
   | refine LeO.ite ?_ ?_
   | refine LeO.bind ?_ (fun _=>?_)
theorem r07_Small.mono : ∀ a0 a1 a2 a3 a4 a5 k,LeO (r07_Small.f k a0 a1 a2 a3 a4 a5) (r07_Small.f (k + 1) a0 a1 a2 a3 a4 a5):=by
 intro a0 a1 a2 a3 a4 a5 k
 obtain ⟨ih0,ih1⟩:=r07_Small.mono_l k
 unfold r07_Small.f
 repeat' first
   | (with_reducible exact ih0 _ _ _ _ _ _ _)
   | (with_reducible exact ih1 _ _ _ _ _ _ _)
   | (with_reducible exact LeO.refl _)
   | (with_reducible exact LeO.none _)
   | (with_reducible refine LeO.ite ?_ ?_)
   | (with_reducible refine LeO.bind ?_ (fun _=>?_))
   | exact ih0 _ _ _ _ _ _ _
   | exact ih1 _ _ _ _ _ _ _
   | exact LeO.none _
   | refine LeO.ite ?_ ?_
   | refine LeO.bind ?_ (fun _=>?_)
theorem r07_Small.calls (k : Nat) (a0_0 : Int) (a0_1 : ByteArray) (a0_2 : ByteArray) (A0_3 : Option Addr) (c0_3 : Nat) (l0_3 : List ByteArray) (a0_4 : ByteArray) (a0_5 : ByteArray) (r : Bool) (w : World) (hr0_3 : Kd.C Kd.string w A0_3 l0_3.length l0_3) (hc0_3 : l0_3.length ≤ c0_3) (h : r07_Small.f k a0_0 a0_1 a0_2 l0_3 a0_4 a0_5 = some r) :
  Calls Tryz.prog 19 #[.agg #[.int .i64 a0_0,.string a0_1,.string a0_2,.slice A0_3 l0_3.length c0_3,.string a0_4,.string a0_5]] w fun e w'=>e = .returned (.bool r) ∧ Below w.heap.size w w':=by
 have hu34:=Tryz.underlying34
 have HR0_3:=As.mk hr0_3
 have HC0_3:=As.mk hc0_3
 clear hr0_3 hc0_3
 have HB:=As.mk (Below.refl w.heap.size w)
 have H : (if (a0_1.size : Int) > 100 then (r07_Small.j0 k true a0_0 a0_1 a0_2 l0_3 a0_4 a0_5) else (if (a0_2.size : Int) > 100 then (r07_Small.j0 k true a0_0 a0_1 a0_2 l0_3 a0_4 a0_5) else (if (l0_3.length : Int) > 30 then (r07_Small.j0 k true a0_0 a0_1 a0_2 l0_3 a0_4 a0_5) else (if (a0_4.size : Int) > 600 then (r07_Small.j0 k true a0_0 a0_1 a0_2 l0_3 a0_4 a0_5) else (r07_Small.j0 k (decide ((a0_5.size : Int) > 5000)) a0_0 a0_1 a0_2 l0_3 a0_4 a0_5))))) = some r:=h
 clear h
 have HC2:=As.mk H
 clear H
 go_enter Tryz.func19,Tryz.ntmps19
 go_upto_region 1 with (first | ((with_reducible refine gate_dst (N:=1) rfl ?_);(try (refine gate_guard (by rfl) ?_;dsimp only));refine box_event ?hg (N:=1) ?hd (cs:=#[.int .i64 a0_0,.string a0_1,.string a0_2,.slice A0_3 l0_3.length c0_3,.string a0_4,.string a0_5]) (t:=34) ?hr ?_;(case hd=>rfl);(case hg=>rfl);(case hr=>first | (go_simp;done) | (go_simp;rfl));intro gb152 hg w3 hbox hb;have n0_:=As.mk (bS (by repeat (first | (with_reducible first | exact HB.out | apply bA | apply bN | apply bD) | exact HB.out)) hb);have n1_:=As.mk (hbox);have n2_:=As.mk ((by rw [hg];exact (bZ (by repeat (first | (with_reducible first | exact HB.out | apply bA | apply bN | apply bD) | exact HB.out))) : w.heap.size ≤ gb152));have n3_:=As.mk ((by rw [hg];exact (bZ (by repeat (first | (with_reducible first | exact HB.out | apply bA | apply bN | apply bD) | exact HB.out))) : w.heap.size ≤ gb152));clear HB;have HB:=n0_;have BK152:=n1_;have GW152:=n2_;have GE152:=n3_;clear n0_ n1_ n2_ n3_;clear hb hbox hg))
 (try simp only [Act.put,List.setIfInBounds_toArray,List.set_cons_zero,List.set_cons_succ])
 go_cut [31] (fun v31 wc=>∃ (kq : Nat) (x31_1 : Bool),v31 = .bool x31_1 ∧ As (r07_Small.j0 kq x31_1 a0_0 a0_1 a0_2 l0_3 a0_4 a0_5 = some r) ∧ As (kq ≤ k) ∧ As (wc.heap[gb152]? = some (.cells #[.int .i64 a0_0,.string a0_1,.string a0_2,(.slice A0_3 l0_3.length c0_3),.string a0_4,.string a0_5] 34 (0,0))) ∧ As (Below w.heap.size w wc))
 case first =>
  have H:=HC2.out
  clear HC2
  by_cases c4 : (a0_1.size : Int) > 100
  ·rw [if_pos c4] at H
   have c4b0 : decide (100 < (a0_1.size : Int)) = true:=decide_eq_true c4
   have c4b1 : decide (100 < a0_1.size) = true:=decide_eq_true (by omega)
   clear c4
   (first | rw [c4b0] | (simp only [i64_w,i32_w];rw [c4b0]) | skip)
   have H':=As.mk H
   clear H
   have hcz5_0 : w3.cell? ⟨gb152,0,none⟩ = some (.int .i64 a0_0):=(bC BK152.out 0).trans rfl
   have hcz5_1 : w3.cell? ⟨gb152,1,none⟩ = some (.string a0_1):=(bC BK152.out 1).trans rfl
   have hcz5_2 : w3.cell? ⟨gb152,2,none⟩ = some (.string a0_2):=(bC BK152.out 2).trans rfl
   have hcz5_3 : w3.cell? ⟨gb152,3,none⟩ = some (.slice A0_3 l0_3.length c0_3):=(bC BK152.out 3).trans rfl
   have hcz5_4 : w3.cell? ⟨gb152,4,none⟩ = some (.string a0_4):=(bC BK152.out 4).trans rfl
   have hcz5_5 : w3.cell? ⟨gb152,5,none⟩ = some (.string a0_5):=(bC BK152.out 5).trans rfl
   have hfz5_0:=bF BK152.out 0
   have hfz5_1:=bF BK152.out 1
   have hfz5_2:=bF BK152.out 2
   have hfz5_3:=bF BK152.out 3
   have hfz5_4:=bF BK152.out 4
   have hfz5_5:=bF BK152.out 5
   go_wp2
   go_meet
   case rel=>exact ⟨_,(true),(by first | rfl | (simp;done) | (simp [*];done)),H',⟨by first | omega | exact Nat.le_refl _⟩,⟨by (with_reducible repeat (first | refine kN ?_ _ | refine kD ?_ | refine kA ?_ _));exact BK152.out⟩,⟨by repeat (first | (with_reducible first | exact HB.out | apply bA | apply bN | apply bD | refine bT ?_ GE152.out) | exact HB.out)⟩⟩
  ·rw [if_neg c4] at H
   have c4b0 : decide (100 < (a0_1.size : Int)) = false:=decide_eq_false c4
   have c4b1 : decide (100 < a0_1.size) = false:=decide_eq_false (by omega)
   clear c4
   (first | rw [c4b0] | (simp only [i64_w,i32_w];rw [c4b0]) | skip)
   by_cases c6 : (a0_2.size : Int) > 100
   ·rw [if_pos c6] at H
    have c6b0 : decide (100 < (a0_2.size : Int)) = true:=decide_eq_true c6
    have c6b1 : decide (100 < a0_2.size) = true:=decide_eq_true (by omega)
    clear c6
    have H':=As.mk H
    clear H
    have hcz7_0 : w3.cell? ⟨gb152,0,none⟩ = some (.int .i64 a0_0):=(bC BK152.out 0).trans rfl
    have hcz7_1 : w3.cell? ⟨gb152,1,none⟩ = some (.string a0_1):=(bC BK152.out 1).trans rfl
    have hcz7_2 : w3.cell? ⟨gb152,2,none⟩ = some (.string a0_2):=(bC BK152.out 2).trans rfl
    have hcz7_3 : w3.cell? ⟨gb152,3,none⟩ = some (.slice A0_3 l0_3.length c0_3):=(bC BK152.out 3).trans rfl
    have hcz7_4 : w3.cell? ⟨gb152,4,none⟩ = some (.string a0_4):=(bC BK152.out 4).trans rfl
    have hcz7_5 : w3.cell? ⟨gb152,5,none⟩ = some (.string a0_5):=(bC BK152.out 5).trans rfl
    have hfz7_0:=bF BK152.out 0
    have hfz7_1:=bF BK152.out 1
    have hfz7_2:=bF BK152.out 2
    have hfz7_3:=bF BK152.out 3
    have hfz7_4:=bF BK152.out 4
    have hfz7_5:=bF BK152.out 5
    go_wp2
    go_meet
    case rel=>exact ⟨_,(true),(by first | rfl | (simp;done) | (simp [*];done)),H',⟨by first | omega | exact Nat.le_refl _⟩,⟨by (with_reducible repeat (first | refine kN ?_ _ | refine kD ?_ | refine kA ?_ _));exact BK152.out⟩,⟨by repeat (first | (with_reducible first | exact HB.out | apply bA | apply bN | apply bD | refine bT ?_ GE152.out) | exact HB.out)⟩⟩
   ·rw [if_neg c6] at H
    have c6b0 : decide (100 < (a0_2.size : Int)) = false:=decide_eq_false c6
    have c6b1 : decide (100 < a0_2.size) = false:=decide_eq_false (by omega)
    clear c6
    by_cases c8 : (l0_3.length : Int) > 30
    ·rw [if_pos c8] at H
     have c8b0 : decide (30 < (l0_3.length : Int)) = true:=decide_eq_true c8
     have c8b1 : decide (30 < l0_3.length) = true:=decide_eq_true (by omega)
     clear c8
     have H':=As.mk H
     clear H
     have hcz9_0 : w3.cell? ⟨gb152,0,none⟩ = some (.int .i64 a0_0):=(bC BK152.out 0).trans rfl
     have hcz9_1 : w3.cell? ⟨gb152,1,none⟩ = some (.string a0_1):=(bC BK152.out 1).trans rfl
     have hcz9_2 : w3.cell? ⟨gb152,2,none⟩ = some (.string a0_2):=(bC BK152.out 2).trans rfl
     have hcz9_3 : w3.cell? ⟨gb152,3,none⟩ = some (.slice A0_3 l0_3.length c0_3):=(bC BK152.out 3).trans rfl
     have hcz9_4 : w3.cell? ⟨gb152,4,none⟩ = some (.string a0_4):=(bC BK152.out 4).trans rfl
     have hcz9_5 : w3.cell? ⟨gb152,5,none⟩ = some (.string a0_5):=(bC BK152.out 5).trans rfl
     have hfz9_0:=bF BK152.out 0
     have hfz9_1:=bF BK152.out 1
     have hfz9_2:=bF BK152.out 2
     have hfz9_3:=bF BK152.out 3
     have hfz9_4:=bF BK152.out 4
     have hfz9_5:=bF BK152.out 5
     go_wp2
     go_meet
     case rel=>exact ⟨_,(true),(by first | rfl | (simp;done) | (simp [*];done)),H',⟨by first | omega | exact Nat.le_refl _⟩,⟨by (with_reducible repeat (first | refine kN ?_ _ | refine kD ?_ | refine kA ?_ _));exact BK152.out⟩,⟨by repeat (first | (with_reducible first | exact HB.out | apply bA | apply bN | apply bD | refine bT ?_ GE152.out) | exact HB.out)⟩⟩
    ·rw [if_neg c8] at H
     have c8b0 : decide (30 < (l0_3.length : Int)) = false:=decide_eq_false c8
     have c8b1 : decide (30 < l0_3.length) = false:=decide_eq_false (by omega)
     clear c8
     by_cases c10 : (a0_4.size : Int) > 600
     ·rw [if_pos c10] at H
      have c10b0 : decide (600 < (a0_4.size : Int)) = true:=decide_eq_true c10
      have c10b1 : decide (600 < a0_4.size) = true:=decide_eq_true (by omega)
      clear c10
      have H':=As.mk H
      clear H
      have hcz11_0 : w3.cell? ⟨gb152,0,none⟩ = some (.int .i64 a0_0):=(bC BK152.out 0).trans rfl
      have hcz11_1 : w3.cell? ⟨gb152,1,none⟩ = some (.string a0_1):=(bC BK152.out 1).trans rfl
      have hcz11_2 : w3.cell? ⟨gb152,2,none⟩ = some (.string a0_2):=(bC BK152.out 2).trans rfl
      have hcz11_3 : w3.cell? ⟨gb152,3,none⟩ = some (.slice A0_3 l0_3.length c0_3):=(bC BK152.out 3).trans rfl
      have hcz11_4 : w3.cell? ⟨gb152,4,none⟩ = some (.string a0_4):=(bC BK152.out 4).trans rfl
      have hcz11_5 : w3.cell? ⟨gb152,5,none⟩ = some (.string a0_5):=(bC BK152.out 5).trans rfl
      have hfz11_0:=bF BK152.out 0
      have hfz11_1:=bF BK152.out 1
      have hfz11_2:=bF BK152.out 2
      have hfz11_3:=bF BK152.out 3
      have hfz11_4:=bF BK152.out 4
      have hfz11_5:=bF BK152.out 5
      go_wp2
      go_meet
      case rel=>exact ⟨_,(true),(by first | rfl | (simp;done) | (simp [*];done)),H',⟨by first | omega | exact Nat.le_refl _⟩,⟨by (with_reducible repeat (first | refine kN ?_ _ | refine kD ?_ | refine kA ?_ _));exact BK152.out⟩,⟨by repeat (first | (with_reducible first | exact HB.out | apply bA | apply bN | apply bD | refine bT ?_ GE152.out) | exact HB.out)⟩⟩
     ·rw [if_neg c10] at H
      have c10b0 : decide (600 < (a0_4.size : Int)) = false:=decide_eq_false c10
      have c10b1 : decide (600 < a0_4.size) = false:=decide_eq_false (by omega)
      clear c10
      have H':=As.mk H
      clear H
      have hcz12_0 : w3.cell? ⟨gb152,0,none⟩ = some (.int .i64 a0_0):=(bC BK152.out 0).trans rfl
      have hcz12_1 : w3.cell? ⟨gb152,1,none⟩ = some (.string a0_1):=(bC BK152.out 1).trans rfl
      have hcz12_2 : w3.cell? ⟨gb152,2,none⟩ = some (.string a0_2):=(bC BK152.out 2).trans rfl
      have hcz12_3 : w3.cell? ⟨gb152,3,none⟩ = some (.slice A0_3 l0_3.length c0_3):=(bC BK152.out 3).trans rfl
      have hcz12_4 : w3.cell? ⟨gb152,4,none⟩ = some (.string a0_4):=(bC BK152.out 4).trans rfl
      have hcz12_5 : w3.cell? ⟨gb152,5,none⟩ = some (.string a0_5):=(bC BK152.out 5).trans rfl
      have hfz12_0:=bF BK152.out 0
      have hfz12_1:=bF BK152.out 1
      have hfz12_2:=bF BK152.out 2
      have hfz12_3:=bF BK152.out 3
      have hfz12_4:=bF BK152.out 4
      have hfz12_5:=bF BK152.out 5
      go_wp2
      go_meet
      case rel=>exact ⟨_,(decide ((a0_5.size : Int) > 5000)),(by first | rfl | (simp;done) | (simp [*];done)),H',⟨by first | omega | exact Nat.le_refl _⟩,⟨by (with_reducible repeat (first | refine kN ?_ _ | refine kD ?_ | refine kA ?_ _));exact BK152.out⟩,⟨by repeat (first | (with_reducible first | exact HB.out | apply bA | apply bN | apply bD | refine bT ?_ GE152.out) | exact HB.out)⟩⟩
 case rest =>
  clear HC2
  try clear c1
  try clear p2
  try clear c4
  try clear c4b0
  try clear c4b1
  try clear c6
  try clear c6b0
  try clear c6b1
  try clear c8
  try clear c8b0
  try clear c8b1
  try clear c10
  try clear c10b0
  try clear c10b1
  try clear hcz11_0
  try clear hcz11_1
  try clear hcz11_2
  try clear hcz11_3
  try clear hcz11_4
  try clear hcz11_5
  try clear hcz12_0
  try clear hcz12_1
  try clear hcz12_2
  try clear hcz12_3
  try clear hcz12_4
  try clear hcz12_5
  try clear hcz5_0
  try clear hcz5_1
  try clear hcz5_2
  try clear hcz5_3
  try clear hcz5_4
  try clear hcz5_5
  try clear hcz7_0
  try clear hcz7_1
  try clear hcz7_2
  try clear hcz7_3
  try clear hcz7_4
  try clear hcz7_5
  try clear hcz9_0
  try clear hcz9_1
  try clear hcz9_2
  try clear hcz9_3
  try clear hcz9_4
  try clear hcz9_5
  try clear hfz11_0
  try clear hfz11_1
  try clear hfz11_2
  try clear hfz11_3
  try clear hfz11_4
  try clear hfz11_5
  try clear hfz12_0
  try clear hfz12_1
  try clear hfz12_2
  try clear hfz12_3
  try clear hfz12_4
  try clear hfz12_5
  try clear hfz5_0
  try clear hfz5_1
  try clear hfz5_2
  try clear hfz5_3
  try clear hfz5_4
  try clear hfz5_5
  try clear hfz7_0
  try clear hfz7_1
  try clear hfz7_2
  try clear hfz7_3
  try clear hfz7_4
  try clear hfz7_5
  try clear hfz9_0
  try clear hfz9_1
  try clear hfz9_2
  try clear hfz9_3
  try clear hfz9_4
  try clear hfz9_5
  obtain ⟨kq,x31_1,rfl,HA,HJ1,BK152,HB⟩:=hcut
  cases kq with
  | zero=>exact absurd HA.out (by simp [r07_Small.j0])
  | succ kj1 =>
   have H:=HA.out
   clear HA
   simp only [r07_Small.j0] at H
   by_cases c13 : x31_1 = true
   ·subst c13
    have H1 : (some false) = some r:=by rw [if_pos rfl] at H;exact H
    clear H
    have H:=H1
    clear H1
    obtain rfl:=Option.some.inj H
    go_wp2
    go_ret
    exact ⟨by first | rfl | (simp [eN,eS] <;> rfl) | (simp [*,eN,eS] <;> rfl),by repeat (first | (with_reducible first | exact HB.out | apply bA | apply bN | apply bD | refine bT ?_ GE152.out) | exact HB.out)⟩
   ·replace c13:=Bool.eq_false_iff.mpr c13
    subst c13
    have H1 : (r07_Small.l0 kj1 0 a0_0 a0_1 a0_2 l0_3 a0_4 a0_5) = some r:=by rw [if_neg (show ¬ (false = true) by decide)] at H;exact H
    clear H
    have H:=H1
    clear H1
    have H':=As.mk H
    clear H
    go_wp2
    go_loopg [3] kj1 (fun kq v3 w'=>∃ (x3_2 : Int),v3 = .int .i64 x3_2 ∧ As (r07_Small.l0 kq x3_2 a0_0 a0_1 a0_2 l0_3 a0_4 a0_5 = some r) ∧ As (kq ≤ kj1) ∧ As (w'.heap[gb152]? = some (.cells #[.int .i64 a0_0,.string a0_1,.string a0_2,(.slice A0_3 l0_3.length c0_3),.string a0_4,.string a0_5] 34 (0,0))) ∧ As (Below w.heap.size w w'))
    case atStart=>exact ⟨(0),(by first | rfl | (simp;done) | (simp [*];done)),H',⟨Nat.le_refl _⟩,⟨by (with_reducible repeat (first | refine kN ?_ _ | refine kD ?_ | refine kA ?_ _));exact BK152.out⟩,⟨by repeat (first | (with_reducible first | exact HB.out | apply bA | apply bN | apply bD | refine bT ?_ GE152.out) | exact HB.out)⟩⟩
    case round =>
     clear H'
     try clear c1
     try clear p2
     try clear c4
     try clear c4b0
     try clear c4b1
     try clear c6
     try clear c6b0
     try clear c6b1
     try clear c8
     try clear c8b0
     try clear c8b1
     try clear c10
     try clear c10b0
     try clear c10b1
     try clear c13
     try clear hcz11_0
     try clear hcz11_1
     try clear hcz11_2
     try clear hcz11_3
     try clear hcz11_4
     try clear hcz11_5
     try clear hcz12_0
     try clear hcz12_1
     try clear hcz12_2
     try clear hcz12_3
     try clear hcz12_4
     try clear hcz12_5
     try clear hcz5_0
     try clear hcz5_1
     try clear hcz5_2
     try clear hcz5_3
     try clear hcz5_4
     try clear hcz5_5
     try clear hcz7_0
     try clear hcz7_1
     try clear hcz7_2
     try clear hcz7_3
     try clear hcz7_4
     try clear hcz7_5
     try clear hcz9_0
     try clear hcz9_1
     try clear hcz9_2
     try clear hcz9_3
     try clear hcz9_4
     try clear hcz9_5
     try clear hfz11_0
     try clear hfz11_1
     try clear hfz11_2
     try clear hfz11_3
     try clear hfz11_4
     try clear hfz11_5
     try clear hfz12_0
     try clear hfz12_1
     try clear hfz12_2
     try clear hfz12_3
     try clear hfz12_4
     try clear hfz12_5
     try clear hfz5_0
     try clear hfz5_1
     try clear hfz5_2
     try clear hfz5_3
     try clear hfz5_4
     try clear hfz5_5
     try clear hfz7_0
     try clear hfz7_1
     try clear hfz7_2
     try clear hfz7_3
     try clear hfz7_4
     try clear hfz7_5
     try clear hfz9_0
     try clear hfz9_1
     try clear hfz9_2
     try clear hfz9_3
     try clear hfz9_4
     try clear hfz9_5
     try clear p2
     obtain ⟨x3_2,rfl,HA,HK2,BK152,HB⟩:=hrel
     cases gk with
     | zero=>exact absurd HA.out (by simp [r07_Small.l0])
     | succ k2 =>
      have H:=HA.out
      clear HA
      simp only [r07_Small.l0] at H
      by_cases c14 : x3_2 < (l0_3.length : Int)
      ·rw [if_pos c14] at H
       have c14b0 : decide (x3_2 < (l0_3.length : Int)) = true:=decide_eq_true c14
       clear c14
       by_cases c15 : 0 ≤ x3_2
       ·rw [if_pos c15] at H
        have c15b0 : decide (0 ≤ x3_2) = true:=decide_eq_true c15
        clear c15
        by_cases c16 : ((rdOf ByteArray.empty l0_3 x3_2).size : Int) > 100
        ·rw [if_pos c16] at H
         have c16b0 : decide (100 < ((rdOf ByteArray.empty l0_3 x3_2).size : Int)) = true:=decide_eq_true c16
         have c16b1 : decide (100 < (rdOf ByteArray.empty l0_3 x3_2).size) = true:=decide_eq_true (by omega)
         clear c16
         obtain rfl:=Option.some.inj H
         have hcz17_0 : wr.cell? ⟨gb152,0,none⟩ = some (.int .i64 a0_0):=(bC BK152.out 0).trans rfl
         have hcz17_1 : wr.cell? ⟨gb152,1,none⟩ = some (.string a0_1):=(bC BK152.out 1).trans rfl
         have hcz17_2 : wr.cell? ⟨gb152,2,none⟩ = some (.string a0_2):=(bC BK152.out 2).trans rfl
         have hcz17_3 : wr.cell? ⟨gb152,3,none⟩ = some (.slice A0_3 l0_3.length c0_3):=(bC BK152.out 3).trans rfl
         have hcz17_4 : wr.cell? ⟨gb152,4,none⟩ = some (.string a0_4):=(bC BK152.out 4).trans rfl
         have hcz17_5 : wr.cell? ⟨gb152,5,none⟩ = some (.string a0_5):=(bC BK152.out 5).trans rfl
         have hfz17_0:=bF BK152.out 0
         have hfz17_1:=bF BK152.out 1
         have hfz17_2:=bF BK152.out 2
         have hfz17_3:=bF BK152.out 3
         have hfz17_4:=bF BK152.out 4
         have hfz17_5:=bF BK152.out 5
         have p153 : 0 ≤ (x3_2 : Int):=of_decide_eq_true (by first | (with_reducible assumption) | assumption)
         have q153 : x3_2 < (l0_3.length : Int):=of_decide_eq_true (by first | (with_reducible assumption) | assumption)
         obtain ⟨ad153,e153,hx153_0⟩:=Kd.at_string HR0_3.out x3_2 p153 q153
         cases e153
         replace hx153_0:=(HB.out.cell (World.block_lt_of_cell? w _ hx153_0)).trans hx153_0
         replace p153:=eq_true p153
         replace q153:=eq_true q153
         go_wp2
         go_ret
         exact ⟨by first | rfl | (simp [eN,eS] <;> rfl) | (simp [*,eN,eS] <;> rfl),by repeat (first | (with_reducible first | exact HB.out | apply bA | apply bN | apply bD | refine bT ?_ GE152.out) | exact HB.out)⟩
        ·rw [if_neg c16] at H
         have c16b0 : decide (100 < ((rdOf ByteArray.empty l0_3 x3_2).size : Int)) = false:=decide_eq_false c16
         have c16b1 : decide (100 < (rdOf ByteArray.empty l0_3 x3_2).size) = false:=decide_eq_false (by omega)
         clear c16
         have H':=As.mk H
         clear H
         have hcz18_0 : wr.cell? ⟨gb152,0,none⟩ = some (.int .i64 a0_0):=(bC BK152.out 0).trans rfl
         have hcz18_1 : wr.cell? ⟨gb152,1,none⟩ = some (.string a0_1):=(bC BK152.out 1).trans rfl
         have hcz18_2 : wr.cell? ⟨gb152,2,none⟩ = some (.string a0_2):=(bC BK152.out 2).trans rfl
         have hcz18_3 : wr.cell? ⟨gb152,3,none⟩ = some (.slice A0_3 l0_3.length c0_3):=(bC BK152.out 3).trans rfl
         have hcz18_4 : wr.cell? ⟨gb152,4,none⟩ = some (.string a0_4):=(bC BK152.out 4).trans rfl
         have hcz18_5 : wr.cell? ⟨gb152,5,none⟩ = some (.string a0_5):=(bC BK152.out 5).trans rfl
         have hfz18_0:=bF BK152.out 0
         have hfz18_1:=bF BK152.out 1
         have hfz18_2:=bF BK152.out 2
         have hfz18_3:=bF BK152.out 3
         have hfz18_4:=bF BK152.out 4
         have hfz18_5:=bF BK152.out 5
         have p153 : 0 ≤ (x3_2 : Int):=of_decide_eq_true (by first | (with_reducible assumption) | assumption)
         have q153 : x3_2 < (l0_3.length : Int):=of_decide_eq_true (by first | (with_reducible assumption) | assumption)
         obtain ⟨ad153,e153,hx153_0⟩:=Kd.at_string HR0_3.out x3_2 p153 q153
         cases e153
         replace hx153_0:=(HB.out.cell (World.block_lt_of_cell? w _ hx153_0)).trans hx153_0
         replace p153:=eq_true p153
         replace q153:=eq_true q153
         go_wp2
         go_roundg k2
         case measure=>have:=HJ1.out;have:=HK2.out;omega
         case rel=>exact ⟨(wrap64 (x3_2 + 1)),(by first | rfl | (simp;done) | (simp [*];done)),H',⟨by have:=HJ1.out;have:=HK2.out;omega⟩,⟨by (with_reducible repeat (first | refine kN ?_ _ | refine kD ?_ | refine kA ?_ _));exact BK152.out⟩,⟨by repeat (first | (with_reducible first | exact HB.out | apply bA | apply bN | apply bD | refine bT ?_ GE152.out) | exact HB.out)⟩⟩
       ·rw [if_neg c15] at H
        exact absurd H (by simp)
      ·rw [if_neg c14] at H
       have c14b0 : decide (x3_2 < (l0_3.length : Int)) = false:=decide_eq_false c14
       clear c14
       obtain rfl:=Option.some.inj H
       have hcz19_0 : wr.cell? ⟨gb152,0,none⟩ = some (.int .i64 a0_0):=(bC BK152.out 0).trans rfl
       have hcz19_1 : wr.cell? ⟨gb152,1,none⟩ = some (.string a0_1):=(bC BK152.out 1).trans rfl
       have hcz19_2 : wr.cell? ⟨gb152,2,none⟩ = some (.string a0_2):=(bC BK152.out 2).trans rfl
       have hcz19_3 : wr.cell? ⟨gb152,3,none⟩ = some (.slice A0_3 l0_3.length c0_3):=(bC BK152.out 3).trans rfl
       have hcz19_4 : wr.cell? ⟨gb152,4,none⟩ = some (.string a0_4):=(bC BK152.out 4).trans rfl
       have hcz19_5 : wr.cell? ⟨gb152,5,none⟩ = some (.string a0_5):=(bC BK152.out 5).trans rfl
       have hfz19_0:=bF BK152.out 0
       have hfz19_1:=bF BK152.out 1
       have hfz19_2:=bF BK152.out 2
       have hfz19_3:=bF BK152.out 3
       have hfz19_4:=bF BK152.out 4
       have hfz19_5:=bF BK152.out 5
       go_wp2
       go_ret
       exact ⟨by first | rfl | (simp [eN,eS] <;> rfl) | (simp [*,eN,eS] <;> rfl),by repeat (first | (with_reducible first | exact HB.out | apply bA | apply bN | apply bD | refine bT ?_ GE152.out) | exact HB.out)⟩
/-! ### r07_Few: function 16 -/
def r07_Few.l0 : Nat → List (S34) → Int → Option (Bool)
 | 0,_,_=>none
 | k + 1,x0,x5=>if x5 < (x0.length : Int) then (if 0 ≤ x5 then ((r07_Small.f k ((rd_T34 x0 x5).f0) ((rd_T34 x0 x5).f1) ((rd_T34 x0 x5).f2) ((rd_T34 x0 x5).f3) ((rd_T34 x0 x5).f4) ((rd_T34 x0 x5).f5)).bind fun t155=>(if t155 = true then (r07_Few.l0 k x0 (wrap64 (x5 + 1))) else (some false))) else (none)) else (some true)
def r07_Few.f (k : Nat) (l0 : List (S34)) (a1 : Int) : Option (Bool):=if (l0.length : Int) > a1 then (some false) else (r07_Few.l0 k l0 0)
theorem r07_Few.mono_l : ∀ k,(∀ y0 y1,LeO (r07_Few.l0 k y0 y1) (r07_Few.l0 (k + 1) y0 y1))
 | 0=>fun _ _ r h=>by simp [r07_Few.l0] at h
 | k + 1=>by
  have ih0:=r07_Few.mono_l k
  ·intro y0 y1
   unfold r07_Few.l0
   repeat' first
   | (with_reducible exact ih0 _ _)
   | (with_reducible exact r07_Small.mono _ _ _ _ _ _ _)
   | (with_reducible exact LeO.refl _)
   | (with_reducible exact LeO.none _)
   | (with_reducible refine LeO.ite ?_ ?_)
   | (with_reducible refine LeO.bind ?_ (fun _=>?_))
   | exact ih0 _ _
   | exact r07_Small.mono _ _ _ _ _ _ _
   | exact LeO.none _
   | refine LeO.ite ?_ ?_
   | refine LeO.bind ?_ (fun _=>?_)
theorem r07_Few.mono : ∀ a0 a1 k,LeO (r07_Few.f k a0 a1) (r07_Few.f (k + 1) a0 a1):=by
 intro a0 a1 k
 have ih0:=r07_Few.mono_l k
 unfold r07_Few.f
 repeat' first
   | (with_reducible exact ih0 _ _)
   | (with_reducible exact r07_Small.mono _ _ _ _ _ _ _)
   | (with_reducible exact LeO.refl _)
   | (with_reducible exact LeO.none _)
   | (with_reducible refine LeO.ite ?_ ?_)
   | (with_reducible refine LeO.bind ?_ (fun _=>?_))
   | exact ih0 _ _
   | exact r07_Small.mono _ _ _ _ _ _ _
   | exact LeO.none _
   | refine LeO.ite ?_ ?_
   | refine LeO.bind ?_ (fun _=>?_)
theorem r07_Few.calls (k : Nat) (A0 : Option Addr) (c0 : Nat) (l0 : List (S34)) (a1 : Int) (r : Bool) (w : World) (hr0 : Kd.C k34 w A0 l0.length l0) (hc0 : l0.length ≤ c0) (h : r07_Few.f k l0 a1 = some r) :
  Calls Tryz.prog 16 #[.slice A0 l0.length c0,.int .i64 a1] w fun e w'=>e = .returned (.bool r) ∧ Below w.heap.size w w':=by
 have hu34:=Tryz.underlying34
 have HR0:=As.mk hr0
 have HC0:=As.mk hc0
 clear hr0 hc0
 have HB:=As.mk (Below.refl w.heap.size w)
 have H : (if (l0.length : Int) > a1 then (some false) else (r07_Few.l0 k l0 0)) = some r:=h
 clear h
 by_cases c3 : (l0.length : Int) > a1
 ·rw [if_pos c3] at H
  have c3b0 : decide (a1 < (l0.length : Int)) = true:=decide_eq_true c3
  clear c3
  obtain rfl:=Option.some.inj H
  go_enter Tryz.func16,Tryz.ntmps16
  go_wp2
  go_ret
  exact ⟨by first | rfl | (simp [eN,eS] <;> rfl) | (simp [*,eN,eS] <;> rfl),by repeat (first | (with_reducible first | exact HB.out | apply bA | apply bN | apply bD) | exact HB.out)⟩
 ·rw [if_neg c3] at H
  have c3b0 : decide (a1 < (l0.length : Int)) = false:=decide_eq_false c3
  clear c3
  have H':=As.mk H
  clear H
  go_enter Tryz.func16,Tryz.ntmps16
  go_wp2
  go_loopg [5] k (fun kq v5 w'=>∃ (x5_1 : Int),v5 = .int .i64 x5_1 ∧ As (r07_Few.l0 kq l0 x5_1 = some r) ∧ As (kq ≤ k) ∧ As (Below w.heap.size w w'))
  case atStart=>exact ⟨(0),(by first | rfl | (simp;done) | (simp [*];done)),H',⟨Nat.le_refl _⟩,⟨by repeat (first | (with_reducible first | exact HB.out | apply bA | apply bN | apply bD) | exact HB.out)⟩⟩
  case round =>
   clear H'
   try clear c1
   try clear p2
   try clear c3
   try clear c3b0
   obtain ⟨x5_1,rfl,HA,HK1,HB⟩:=hrel
   cases gk with
   | zero=>exact absurd HA.out (by simp [r07_Few.l0])
   | succ k1 =>
    have H:=HA.out
    clear HA
    simp only [r07_Few.l0] at H
    by_cases c4 : x5_1 < (l0.length : Int)
    ·rw [if_pos c4] at H
     have c4b0 : decide (x5_1 < (l0.length : Int)) = true:=decide_eq_true c4
     clear c4
     by_cases c5 : 0 ≤ x5_1
     ·rw [if_pos c5] at H
      have c5b0 : decide (0 ≤ x5_1) = true:=decide_eq_true c5
      clear c5
      replace H:=Option.bind_eq_some_iff.mp H
      obtain ⟨t155,A60,H⟩:=H
      replace H : (if t155 = true then (r07_Few.l0 k1 l0 (wrap64 (x5_1 + 1))) else (some false)) = some r:=H
      have A6:=As.mk A60
      clear A60
      by_cases c7 : t155 = true
      ·subst c7
       have H1 : (r07_Few.l0 k1 l0 (wrap64 (x5_1 + 1))) = some r:=by rw [if_pos rfl] at H;exact H
       clear H
       have H:=H1
       clear H1
       have H':=As.mk H
       clear H
       have p154 : 0 ≤ (x5_1 : Int):=of_decide_eq_true (by first | (with_reducible assumption) | assumption)
       have q154 : x5_1 < (l0.length : Int):=of_decide_eq_true (by first | (with_reducible assumption) | assumption)
       obtain ⟨ad154,A154_3,c154_3,e154,hx154_0,hx154_1,hx154_2,hx154_3,hx154_4,hx154_5,hl154_3,hi154_3⟩:=at_T34 HR0.out x5_1 p154 q154
       cases e154
       replace hx154_0:=(HB.out.cell (World.block_lt_of_cell? w _ hx154_0)).trans hx154_0
       replace hx154_1:=(HB.out.cell (World.block_lt_of_cell? w _ hx154_1)).trans hx154_1
       replace hx154_2:=(HB.out.cell (World.block_lt_of_cell? w _ hx154_2)).trans hx154_2
       replace hx154_3:=(HB.out.cell (World.block_lt_of_cell? w _ hx154_3)).trans hx154_3
       replace hx154_4:=(HB.out.cell (World.block_lt_of_cell? w _ hx154_4)).trans hx154_4
       replace hx154_5:=(HB.out.cell (World.block_lt_of_cell? w _ hx154_5)).trans hx154_5
       have HR154_3:=As.mk hi154_3
       have HC154_3:=As.mk hl154_3
       clear hi154_3 hl154_3
       replace p154:=eq_true p154
       replace q154:=eq_true q154
       go_wp2_with (first | ((with_reducible refine gC (f:=19) rfl ?_);refine goesL_ (some 20) rfl rfl Tryz.func19 (by kernel_rfl) rfl #[.agg #[.int .i64 ((rd_T34 l0 x5_1).f0),.string ((rd_T34 l0 x5_1).f1),.string ((rd_T34 l0 x5_1).f2),.slice A154_3 ((rd_T34 l0 x5_1).f3).length c154_3,.string ((rd_T34 l0 x5_1).f4),.string ((rd_T34 l0 x5_1).f5)]] rfl (by (try simp only [List.map_toArray,List.map_cons,List.map_nil]);first | done | rfl | (simp only [List.length_drop,List.length_take];rfl)) ?_;(with_reducible refine (r07_Small.calls k1 ((rd_T34 l0 x5_1).f0) ((rd_T34 l0 x5_1).f1) ((rd_T34 l0 x5_1).f2) _ _ ((rd_T34 l0 x5_1).f3) ((rd_T34 l0 x5_1).f4) ((rd_T34 l0 x5_1).f5) true _ ?side1 ?side2 A6.out).mono ?_);(case side1=>repeat (first | exact (Kd.C_below HR154_3.out HB.out) | (with_reducible refine Kd.C_alloc ?_ _) | (with_reducible refine Kd.C_drewN ?_ _) | (with_reducible refine Kd.C_drew ?_)));(case side2=>exact HC154_3.out);rintro e w8 ⟨rfl,hb⟩;refine ⟨_,rfl,?_⟩;have n0_:=As.mk (bS (by repeat (first | (with_reducible first | exact HB.out | apply bA | apply bN | apply bD) | exact HB.out)) hb);clear HB;have HB:=n0_;clear n0_;(try clear hb);(try clear hb2);(try clear hk);(try clear hi)))
       go_roundg k1
       case measure=>have:=HK1.out;omega
       case rel=>exact ⟨(wrap64 (x5_1 + 1)),(by first | rfl | (simp;done) | (simp [*];done)),H',⟨by have:=HK1.out;omega⟩,⟨by repeat (first | (with_reducible first | exact HB.out | apply bA | apply bN | apply bD) | exact HB.out)⟩⟩
      ·replace c7:=Bool.eq_false_iff.mpr c7
       subst c7
       have H1 : (some false) = some r:=by rw [if_neg (show ¬ (false = true) by decide)] at H;exact H
       clear H
       have H:=H1
       clear H1
       obtain rfl:=Option.some.inj H
       have p154 : 0 ≤ (x5_1 : Int):=of_decide_eq_true (by first | (with_reducible assumption) | assumption)
       have q154 : x5_1 < (l0.length : Int):=of_decide_eq_true (by first | (with_reducible assumption) | assumption)
       obtain ⟨ad154,A154_3,c154_3,e154,hx154_0,hx154_1,hx154_2,hx154_3,hx154_4,hx154_5,hl154_3,hi154_3⟩:=at_T34 HR0.out x5_1 p154 q154
       cases e154
       replace hx154_0:=(HB.out.cell (World.block_lt_of_cell? w _ hx154_0)).trans hx154_0
       replace hx154_1:=(HB.out.cell (World.block_lt_of_cell? w _ hx154_1)).trans hx154_1
       replace hx154_2:=(HB.out.cell (World.block_lt_of_cell? w _ hx154_2)).trans hx154_2
       replace hx154_3:=(HB.out.cell (World.block_lt_of_cell? w _ hx154_3)).trans hx154_3
       replace hx154_4:=(HB.out.cell (World.block_lt_of_cell? w _ hx154_4)).trans hx154_4
       replace hx154_5:=(HB.out.cell (World.block_lt_of_cell? w _ hx154_5)).trans hx154_5
       have HR154_3:=As.mk hi154_3
       have HC154_3:=As.mk hl154_3
       clear hi154_3 hl154_3
       replace p154:=eq_true p154
       replace q154:=eq_true q154
       go_wp2_with (first | ((with_reducible refine gC (f:=19) rfl ?_);refine goesL_ (some 20) rfl rfl Tryz.func19 (by kernel_rfl) rfl #[.agg #[.int .i64 ((rd_T34 l0 x5_1).f0),.string ((rd_T34 l0 x5_1).f1),.string ((rd_T34 l0 x5_1).f2),.slice A154_3 ((rd_T34 l0 x5_1).f3).length c154_3,.string ((rd_T34 l0 x5_1).f4),.string ((rd_T34 l0 x5_1).f5)]] rfl (by (try simp only [List.map_toArray,List.map_cons,List.map_nil]);first | done | rfl | (simp only [List.length_drop,List.length_take];rfl)) ?_;(with_reducible refine (r07_Small.calls k1 ((rd_T34 l0 x5_1).f0) ((rd_T34 l0 x5_1).f1) ((rd_T34 l0 x5_1).f2) _ _ ((rd_T34 l0 x5_1).f3) ((rd_T34 l0 x5_1).f4) ((rd_T34 l0 x5_1).f5) false _ ?side1 ?side2 A6.out).mono ?_);(case side1=>repeat (first | exact (Kd.C_below HR154_3.out HB.out) | (with_reducible refine Kd.C_alloc ?_ _) | (with_reducible refine Kd.C_drewN ?_ _) | (with_reducible refine Kd.C_drew ?_)));(case side2=>exact HC154_3.out);rintro e w9 ⟨rfl,hb⟩;refine ⟨_,rfl,?_⟩;have n0_:=As.mk (bS (by repeat (first | (with_reducible first | exact HB.out | apply bA | apply bN | apply bD) | exact HB.out)) hb);clear HB;have HB:=n0_;clear n0_;(try clear hb);(try clear hb2);(try clear hk);(try clear hi)))
       go_ret
       exact ⟨by first | rfl | (simp [eN,eS] <;> rfl) | (simp [*,eN,eS] <;> rfl),by repeat (first | (with_reducible first | exact HB.out | apply bA | apply bN | apply bD) | exact HB.out)⟩
     ·rw [if_neg c5] at H
      exact absurd H (by simp)
    ·rw [if_neg c4] at H
     have c4b0 : decide (x5_1 < (l0.length : Int)) = false:=decide_eq_false c4
     clear c4
     obtain rfl:=Option.some.inj H
     go_wp2
     go_ret
     exact ⟨by first | rfl | (simp [eN,eS] <;> rfl) | (simp [*,eN,eS] <;> rfl),by repeat (first | (with_reducible first | exact HB.out | apply bA | apply bN | apply bD) | exact HB.out)⟩
/-! ### r06_small: function 108 -/
/-! ### r06_letter: function 140 -/
end Go.Proofs.YtmlebgikdegjjaaGreatDoor.PAll
