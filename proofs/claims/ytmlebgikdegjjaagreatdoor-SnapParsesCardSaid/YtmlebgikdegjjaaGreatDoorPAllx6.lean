import Derived.Test.YtmlebgikdegjjaaGreatDoorPAllx0
import Derived.Test.YtmlebgikdegjjaaGreatDoorPAllx4
import Derived.Test.YtmlebgikdegjjaaGreatDoorPAllx5
set_option maxHeartbeats 8000000
set_option maxRecDepth 100000
namespace Go.Proofs.YtmlebgikdegjjaaGreatDoor.PAll
open Go.RowKit Go.Proofs.YtmlebgikdegjjaaGreatDoorW.PrintWords Go.Proofs.YtmlebgikdegjjaaGreatDoorW.PrintLast Go.Proofs.YtmlebgikdegjjaaGreatDoorW.PrintMore
attribute [local go_sem] max2_int min2_int max_two min_two max_three min_three max_four min_four   -- for this text's walks alone
set_option linter.unusedVariables false
set_option linter.unusedSimpArgs false
/-! ### r07_Right: function 24 -/
def r07_Right.l0 : Nat → Int → Int → ByteArray → ByteArray → List ByteArray → ByteArray → ByteArray → Option (Bool)
 | 0,_,_,_,_,_,_,_=>none
 | k + 1,x3,x190000,x190001,x190002,x190003,x190004,x190005=>if x3 < (x190003.length : Int) then (if 0 ≤ x3 then ((r06_Var.f k (rdOf ByteArray.empty x190003 x3)).bind fun t194=>(if t194 = true then (if x3 ≤ (x190003.length : Int) then ((r06_In.f k (x190003.take (x3 : Int).toNat) (rdOf ByteArray.empty x190003 x3)).bind fun t197=>(if t197 = true then (some false) else (r07_Right.l0 k (wrap64 (x3 + 1)) x190000 x190001 x190002 x190003 x190004 x190005))) else (none)) else (some false))) else (none)) else ((r06_Always.f k x190001).bind fun t191=>(if t191 = true then (some false) else ((r06_Class.f k x190002).bind fun t192=>(if t192 = true then (if (x190003.length : Int) ≤ 20 then (if x190004.toList = ([] : List UInt8) then (some (x190005.toList == ([] : List UInt8))) else (some false)) else (some false)) else (some false)))))
def r07_Right.f (k : Nat) (a0_0 : Int) (a0_1 : ByteArray) (a0_2 : ByteArray) (l0_3 : List ByteArray) (a0_4 : ByteArray) (a0_5 : ByteArray) : Option (Bool):=(r06_Class.f k a0_1).bind fun t190=>(if t190 = true then (if a0_0 = 1 then (r07_Right.l0 k 0 a0_0 a0_1 a0_2 l0_3 a0_4 a0_5) else (if a0_0 = 2 then ((r06_Kind.f k a0_4).bind fun t198=>(if t198 > 0 then (if (a0_5.size : Int) ≤ 4000 then (if a0_2.toList = ([] : List UInt8) then (some ((l0_3.length : Int) == 0)) else (some false)) else (some false)) else (some false))) else (some false))) else (some false))
theorem r07_Right.mono_l : ∀ k,(∀ y0 y1 y2 y3 y4 y5 y6,LeO (r07_Right.l0 k y0 y1 y2 y3 y4 y5 y6) (r07_Right.l0 (k + 1) y0 y1 y2 y3 y4 y5 y6))
 | 0=>fun _ _ _ _ _ _ _ r h=>by simp [r07_Right.l0] at h
 | k + 1=>by
  have ih0:=r07_Right.mono_l k
  ·intro y0 y1 y2 y3 y4 y5 y6
   unfold r07_Right.l0
   repeat' first
   | (with_reducible exact ih0 _ _ _ _ _ _ _)
   | (with_reducible exact r06_Always.mono _ _)
   | (with_reducible exact r06_Class.mono _ _)
   | (with_reducible exact r06_In.mono _ _ _)
   | (with_reducible exact r06_Kind.mono _ _)
   | (with_reducible exact r06_Var.mono _ _)
   | (with_reducible exact LeO.refl _)
   | (with_reducible exact LeO.none _)
   | (with_reducible refine LeO.ite ?_ ?_)
   | (with_reducible refine LeO.bind ?_ (fun _=>?_))
   | exact ih0 _ _ _ _ _ _ _
   | exact r06_Always.mono _ _
   | exact r06_Class.mono _ _
   | exact r06_In.mono _ _ _
   | exact r06_Kind.mono _ _
   | exact r06_Var.mono _ _
   | exact LeO.none _
   | refine LeO.ite ?_ ?_
   | refine LeO.bind ?_ (fun _=>?_)
theorem r07_Right.mono : ∀ a0 a1 a2 a3 a4 a5 k,LeO (r07_Right.f k a0 a1 a2 a3 a4 a5) (r07_Right.f (k + 1) a0 a1 a2 a3 a4 a5):=by
 intro a0 a1 a2 a3 a4 a5 k
 have ih0:=r07_Right.mono_l k
 unfold r07_Right.f
 repeat' first
   | (with_reducible exact ih0 _ _ _ _ _ _ _)
   | (with_reducible exact r06_Always.mono _ _)
   | (with_reducible exact r06_Class.mono _ _)
   | (with_reducible exact r06_In.mono _ _ _)
   | (with_reducible exact r06_Kind.mono _ _)
   | (with_reducible exact r06_Var.mono _ _)
   | (with_reducible exact LeO.refl _)
   | (with_reducible exact LeO.none _)
   | (with_reducible refine LeO.ite ?_ ?_)
   | (with_reducible refine LeO.bind ?_ (fun _=>?_))
   | exact ih0 _ _ _ _ _ _ _
   | exact r06_Always.mono _ _
   | exact r06_Class.mono _ _
   | exact r06_In.mono _ _ _
   | exact r06_Kind.mono _ _
   | exact r06_Var.mono _ _
   | exact LeO.none _
   | refine LeO.ite ?_ ?_
   | refine LeO.bind ?_ (fun _=>?_)
def r07_Right.T7 : Bool × List (List Nat × List Nat):=(true,[([],[]),([0],[0]),([],[]),([1,2],[1,2]),([3],[3]),([4],[4]),([5],[5]),([6,5],[6]),([7],[7]),([8,7],[7,8]),([7],[7]),([9,10,7],[7,9,10]),([7],[7]),([12,7],[7,12]),([7],[7]),([13,14,7],[7,13,14]),([15,7],[7,15]),([11,16,7,7],[7,11,16]),([7,17],[7,17])])
def r07_Right.B7 : List Nat:=[0,1,0,7,15,31,63,127,255,511,255,2047,255,4351,255,28927,61695,131071,262143]
theorem r07_Right.tab7 : rtab .any (opsOf Tryz.f24 7) = r07_Right.T7:=by kernel_rfl
theorem r07_Right.bits7 : waitsOk r07_Right.T7.2 r07_Right.B7 = true:=by kernel_rfl
theorem r07_Right.calls (k : Nat) (a0_0 : Int) (a0_1 : ByteArray) (a0_2 : ByteArray) (A0_3 : Option Addr) (c0_3 : Nat) (l0_3 : List ByteArray) (a0_4 : ByteArray) (a0_5 : ByteArray) (r : Bool) (w : World) (hr0_3 : Kd.C Kd.string w A0_3 l0_3.length l0_3) (hc0_3 : l0_3.length ≤ c0_3) (h : r07_Right.f k a0_0 a0_1 a0_2 l0_3 a0_4 a0_5 = some r) :
  Calls Tryz.prog 24 #[.agg #[.int .i64 a0_0,.string a0_1,.string a0_2,.slice A0_3 l0_3.length c0_3,.string a0_4,.string a0_5]] w fun e w'=>e = .returned (.bool r) ∧ Below w.heap.size w w':=by
 have hu34:=Tryz.underlying34
 have HR0_3:=As.mk hr0_3
 have HC0_3:=As.mk hc0_3
 clear hr0_3 hc0_3
 have HB:=As.mk (Below.refl w.heap.size w)
 have H : ((r06_Class.f k a0_1).bind fun t190=>(if t190 = true then (if a0_0 = 1 then (r07_Right.l0 k 0 a0_0 a0_1 a0_2 l0_3 a0_4 a0_5) else (if a0_0 = 2 then ((r06_Kind.f k a0_4).bind fun t198=>(if t198 > 0 then (if (a0_5.size : Int) ≤ 4000 then (if a0_2.toList = ([] : List UInt8) then (some ((l0_3.length : Int) == 0)) else (some false)) else (some false)) else (some false))) else (some false))) else (some false))) = some r:=h
 clear h
 replace H:=Option.bind_eq_some_iff.mp H
 obtain ⟨t190,A20,H⟩:=H
 replace H : (if t190 = true then (if a0_0 = 1 then (r07_Right.l0 k 0 a0_0 a0_1 a0_2 l0_3 a0_4 a0_5) else (if a0_0 = 2 then ((r06_Kind.f k a0_4).bind fun t198=>(if t198 > 0 then (if (a0_5.size : Int) ≤ 4000 then (if a0_2.toList = ([] : List UInt8) then (some ((l0_3.length : Int) == 0)) else (some false)) else (some false)) else (some false))) else (some false))) else (some false)) = some r:=H
 have A2:=As.mk A20
 clear A20
 by_cases c3 : t190 = true
 ·subst c3
  have H1 : (if a0_0 = 1 then (r07_Right.l0 k 0 a0_0 a0_1 a0_2 l0_3 a0_4 a0_5) else (if a0_0 = 2 then ((r06_Kind.f k a0_4).bind fun t198=>(if t198 > 0 then (if (a0_5.size : Int) ≤ 4000 then (if a0_2.toList = ([] : List UInt8) then (some ((l0_3.length : Int) == 0)) else (some false)) else (some false)) else (some false))) else (some false))) = some r:=by rw [if_pos rfl] at H;exact H
  clear H
  have H:=H1
  clear H1
  by_cases c4 : a0_0 = 1
  ·rw [if_pos c4] at H
   have c4b0 : (a0_0 == 1) = true:=beq_iff_eq.mpr c4
   have c4b1 : (a0_0 != 1) = false:=bne_eq_false_iff_eq.mpr c4
   clear c4
   have H':=As.mk H
   clear H
   go_enter Tryz.func24,Tryz.ntmps24
   go_wp2_with (first | ((with_reducible refine gate_dst (N:=1) rfl ?_);(try (refine gate_guard (by rfl) ?_;dsimp only));refine box_event ?hg (N:=1) ?hd (cs:=#[.int .i64 a0_0,.string a0_1,.string a0_2,.slice A0_3 l0_3.length c0_3,.string a0_4,.string a0_5]) (t:=34) ?hr ?_;(case hd=>rfl);(case hg=>rfl);(case hr=>first | (go_simp;done) | (go_simp;rfl));intro gb189 hg w5 hbox hb;have n0_:=As.mk (bS (by repeat (first | (with_reducible first | exact HB.out | apply bA | apply bN | apply bD) | exact HB.out)) hb);have n1_:=As.mk (hbox);have n2_:=As.mk ((by rw [hg];exact (bZ (by repeat (first | (with_reducible first | exact HB.out | apply bA | apply bN | apply bD) | exact HB.out))) : w.heap.size ≤ gb189));have n3_:=As.mk ((by rw [hg];exact (bZ (by repeat (first | (with_reducible first | exact HB.out | apply bA | apply bN | apply bD) | exact HB.out))) : w.heap.size ≤ gb189));clear HB;have HB:=n0_;have BK189:=n1_;have GW189:=n2_;have GE189:=n3_;clear n0_ n1_ n2_ n3_;clear hb hbox hg;have hcz6_0 : w5.cell? ⟨gb189,0,none⟩ = some (.int .i64 a0_0):=(bC BK189.out 0).trans rfl;have hcz6_1 : w5.cell? ⟨gb189,1,none⟩ = some (.string a0_1):=(bC BK189.out 1).trans rfl;have hcz6_2 : w5.cell? ⟨gb189,2,none⟩ = some (.string a0_2):=(bC BK189.out 2).trans rfl;have hcz6_3 : w5.cell? ⟨gb189,3,none⟩ = some (.slice A0_3 l0_3.length c0_3):=(bC BK189.out 3).trans rfl;have hcz6_4 : w5.cell? ⟨gb189,4,none⟩ = some (.string a0_4):=(bC BK189.out 4).trans rfl;have hcz6_5 : w5.cell? ⟨gb189,5,none⟩ = some (.string a0_5):=(bC BK189.out 5).trans rfl;have hfz6_0:=bF BK189.out 0;have hfz6_1:=bF BK189.out 1;have hfz6_2:=bF BK189.out 2;have hfz6_3:=bF BK189.out 3;have hfz6_4:=bF BK189.out 4;have hfz6_5:=bF BK189.out 5) | ((with_reducible refine gC (f:=66) rfl ?_);refine goesL_ (some 6) rfl rfl Tryz.func66 (by kernel_rfl) rfl #[.string a0_1] rfl (by (try simp only [List.map_toArray,List.map_cons,List.map_nil]);first | done | rfl | (simp only [List.length_drop,List.length_take];rfl)) ?_;(with_reducible refine (r06_Class.calls k a0_1 true _ A2.out).mono ?_);rintro e w' ⟨rfl,⟨nd,rfl⟩⟩;refine ⟨_,rfl,?_⟩))
   go_loopg [3] k (fun kq v3 w'=>∃ (x3_1 : Int),v3 = .int .i64 x3_1 ∧ As (r07_Right.l0 kq x3_1 a0_0 a0_1 a0_2 l0_3 a0_4 a0_5 = some r) ∧ As (kq ≤ k) ∧ As (w'.heap[gb189]? = some (.cells #[.int .i64 a0_0,.string a0_1,.string a0_2,(.slice A0_3 l0_3.length c0_3),.string a0_4,.string a0_5] 34 (0,0))) ∧ As (Below w.heap.size w w'))
   case atStart=>exact ⟨(0),(by first | rfl | (simp;done) | (simp [*];done)),H',⟨Nat.le_refl _⟩,⟨by (with_reducible repeat (first | refine kN ?_ _ | refine kD ?_ | refine kA ?_ _));exact BK189.out⟩,⟨by repeat (first | (with_reducible first | exact HB.out | apply bA | apply bN | apply bD | refine bT ?_ GE189.out) | exact HB.out)⟩⟩
   case round =>
    clear H'
    try clear c2
    try clear p2
    try clear c3
    try clear c4
    try clear c4b0
    try clear c4b1
    try clear c6
    try clear hcz6_0
    try clear hcz6_1
    try clear hcz6_2
    try clear hcz6_3
    try clear hcz6_4
    try clear hcz6_5
    try clear hfz6_0
    try clear hfz6_1
    try clear hfz6_2
    try clear hfz6_3
    try clear hfz6_4
    try clear hfz6_5
    obtain ⟨x3_1,rfl,HA,HK1,BK189,HB⟩:=hrel
    cases gk with
    | zero=>exact absurd HA.out (by simp [r07_Right.l0])
    | succ k1 =>
     have H:=HA.out
     clear HA
     simp only [r07_Right.l0] at H
     by_cases c7 : x3_1 < (l0_3.length : Int)
     ·rw [if_pos c7] at H
      have c7b0 : decide (x3_1 < (l0_3.length : Int)) = true:=decide_eq_true c7
      clear c7
      by_cases c8 : 0 ≤ x3_1
      ·rw [if_pos c8] at H
       have c8b0 : decide (0 ≤ x3_1) = true:=decide_eq_true c8
       clear c8
       replace H:=Option.bind_eq_some_iff.mp H
       obtain ⟨t194,A90,H⟩:=H
       replace H : (if t194 = true then (if x3_1 ≤ (l0_3.length : Int) then ((r06_In.f k1 (l0_3.take (x3_1 : Int).toNat) (rdOf ByteArray.empty l0_3 x3_1)).bind fun t197=>(if t197 = true then (some false) else (r07_Right.l0 k1 (wrap64 (x3_1 + 1)) a0_0 a0_1 a0_2 l0_3 a0_4 a0_5))) else (none)) else (some false)) = some r:=H
       have A9:=As.mk A90
       clear A90
       by_cases c10 : t194 = true
       ·subst c10
        have H1 : (if x3_1 ≤ (l0_3.length : Int) then ((r06_In.f k1 (l0_3.take (x3_1 : Int).toNat) (rdOf ByteArray.empty l0_3 x3_1)).bind fun t197=>(if t197 = true then (some false) else (r07_Right.l0 k1 (wrap64 (x3_1 + 1)) a0_0 a0_1 a0_2 l0_3 a0_4 a0_5))) else (none)) = some r:=by rw [if_pos rfl] at H;exact H
        clear H
        have H:=H1
        clear H1
        have c11b0:=eq_true (of_decide_eq_true (by first | (with_reducible assumption) | assumption) : 0 ≤ x3_1)
        by_cases c12 : x3_1 ≤ (l0_3.length : Int)
        ·rw [if_pos c12] at H
         have c12b0:=eq_true c12
         have c12b1 : decide (x3_1 ≤ (l0_3.length : Int)) = true:=decide_eq_true c12
         clear c12
         replace H:=Option.bind_eq_some_iff.mp H
         obtain ⟨t197,A130,H⟩:=H
         replace H : (if t197 = true then (some false) else (r07_Right.l0 k1 (wrap64 (x3_1 + 1)) a0_0 a0_1 a0_2 l0_3 a0_4 a0_5)) = some r:=H
         have A13:=As.mk A130
         clear A130
         by_cases c14 : t197 = true
         ·subst c14
          have H1 : (some false) = some r:=by rw [if_pos rfl] at H;exact H
          clear H
          have H:=H1
          clear H1
          obtain rfl:=Option.some.inj H
          have hcz15_0 : wr.cell? ⟨gb189,0,none⟩ = some (.int .i64 a0_0):=(bC BK189.out 0).trans rfl
          have hcz15_1 : wr.cell? ⟨gb189,1,none⟩ = some (.string a0_1):=(bC BK189.out 1).trans rfl
          have hcz15_2 : wr.cell? ⟨gb189,2,none⟩ = some (.string a0_2):=(bC BK189.out 2).trans rfl
          have hcz15_3 : wr.cell? ⟨gb189,3,none⟩ = some (.slice A0_3 l0_3.length c0_3):=(bC BK189.out 3).trans rfl
          have hcz15_4 : wr.cell? ⟨gb189,4,none⟩ = some (.string a0_4):=(bC BK189.out 4).trans rfl
          have hcz15_5 : wr.cell? ⟨gb189,5,none⟩ = some (.string a0_5):=(bC BK189.out 5).trans rfl
          have hfz15_0:=bF BK189.out 0
          have hfz15_1:=bF BK189.out 1
          have hfz15_2:=bF BK189.out 2
          have hfz15_3:=bF BK189.out 3
          have hfz15_4:=bF BK189.out 4
          have hfz15_5:=bF BK189.out 5
          try go_wp2
          have n0_:=As.mk (kD BK189.out)
          have n1_:=As.mk (bD HB.out)
          clear BK189
          clear HB
          have BK189:=n0_
          have HB:=n1_
          clear n0_ n1_
          have p193 : 0 ≤ (x3_1 : Int):=of_decide_eq_true (by first | (with_reducible assumption) | assumption)
          have q193 : x3_1 < (l0_3.length : Int):=of_decide_eq_true (by first | (with_reducible assumption) | assumption)
          obtain ⟨ad193,e193,hx193_0⟩:=Kd.at_string HR0_3.out x3_1 p193 q193
          have hw193_0:=hx193_0
          cases e193
          replace hx193_0:=(HB.out.cell (World.block_lt_of_cell? w _ hx193_0)).trans hx193_0
          replace p193:=eq_true p193
          replace q193:=eq_true q193
          have p196 : 0 ≤ (x3_1 : Int):=of_decide_eq_true (by first | (with_reducible assumption) | assumption)
          have q196 : x3_1 < (l0_3.length : Int):=of_decide_eq_true (by first | (with_reducible assumption) | assumption)
          obtain ⟨ad196,e196,hx196_0⟩:=Kd.at_string HR0_3.out x3_1 p196 q196
          have hw196_0:=hx196_0
          obtain rfl : ad193 = ad196:=(by injection e196)
          replace hx196_0:=(HB.out.cell (World.block_lt_of_cell? w _ hx196_0)).trans hx196_0
          replace p196:=eq_true p196
          replace q196:=eq_true q196
          refine start_ (n:=19) (S:=fun w'=>w'.cell? ⟨gb189,0,none⟩ = some (.int .i64 a0_0) ∧ w'.cell? ⟨gb189,1,none⟩ = some (.string a0_1) ∧ w'.cell? ⟨gb189,2,none⟩ = some (.string a0_2) ∧ w'.cell? ⟨gb189,3,none⟩ = some (.slice (some ad193) l0_3.length c0_3) ∧ w'.cell? ⟨gb189,4,none⟩ = some (.string a0_4) ∧ w'.cell? ⟨gb189,5,none⟩ = some (.string a0_5) ∧ w'.cell? (ad193.add (x3_1).toNat) = some (.string (rdOf ByteArray.empty l0_3 x3_1)) ∧ w'.cell? (ad193.add (x3_1).toNat) = some (.string (rdOf ByteArray.empty l0_3 x3_1))) (ds:=[]) #[false,false,false,false,false,false,false,false,false,false,false,false,false,false,false,false,false,false,false] (by kernel_rfl) rfl rfl ⟨(bC BK189.out 0).trans rfl,(bC BK189.out 1).trans rfl,(bC BK189.out 2).trans rfl,(bC BK189.out 3).trans rfl,(bC BK189.out 4).trans rfl,(bC BK189.out 5).trans rfl,((HB.out.cell (World.block_lt_of_cell? w _ hw193_0)).trans hw193_0),((HB.out.cell (World.block_lt_of_cell? w _ hw196_0)).trans hw196_0)⟩ (fun hHeld=>?_);refine with_tabW r07_Right.tab7 r07_Right.bits7 (fun HT_ HW_=>?_)
          generalize wr.drew = w16 at BK189 HB hx193_0 hx196_0 hHeld ⊢
          refine pure_ (i:=0) (N:=some 18) (v:=?_) (a':=?_) #[true,false,false,false,false,false,false,false,false,false,false,false,false,false,false,false,false,false,false] rfl rfl (any_of HT_.out (by kernel_rfl)) (fun _ _ _ h=>h) (Or.inl ⟨by rfl,?_⟩) ?_ ?_
          rotate_left
          ·intro w'
           go_simp
           with_reducible rfl
          rotate_left
          ·simp only [Act.put,List.setIfInBounds_toArray,List.set_cons_zero,List.set_cons_succ,i64_w,i32_w]
           rfl
          refine pure_ (i:=2) (N:=some 20) (v:=?_) (a':=?_) #[true,false,true,false,false,false,false,false,false,false,false,false,false,false,false,false,false,false,false] rfl rfl (any_of HT_.out (by kernel_rfl)) (fun _ _ _ h=>h) (Or.inl ⟨by rfl,?_⟩) ?_ ?_
          rotate_left
          ·intro w'
           go_simp
           with_reducible rfl
          rotate_left
          ·simp only [Act.put,List.setIfInBounds_toArray,List.set_cons_zero,List.set_cons_succ,i64_w,i32_w]
           rfl
          refine take_ (i:=1) (N:=some 19) (v:=?_) (a':=?_) #[true,true,true,false,false,false,false,false,false,false,false,false,false,false,false,false,false,false,false] rfl rfl (take_ofW HT_.out HW_.out (by kernel_rfl)) (fun _ _ _ h=>h) (Or.inl ⟨by rfl,?_⟩) hHeld ?_ ?_
          rotate_left
          ·rintro w' ⟨s0,s1,s2,s3,s4,s5,s6,s7⟩
           go_simp
           with_reducible rfl
          rotate_left
          ·simp only [Act.put,List.setIfInBounds_toArray,List.set_cons_zero,List.set_cons_succ,i64_w,i32_w]
           rfl
          refine pure_ (i:=3) (N:=some 21) (v:=?_) (a':=?_) #[true,true,true,true,false,false,false,false,false,false,false,false,false,false,false,false,false,false,false] rfl rfl (any_of HT_.out (by kernel_rfl)) (fun _ _ _ h=>h) (Or.inl ⟨by rfl,?_⟩) ?_ ?_
          rotate_left
          ·intro w'
           go_simp
           with_reducible rfl
          rotate_left
          ·simp only [Act.put,List.setIfInBounds_toArray,List.set_cons_zero,List.set_cons_succ,i64_w,i32_w]
           rfl
          refine take_ (i:=4) (N:=some 22) (v:=?_) (a':=?_) #[true,true,true,true,true,false,false,false,false,false,false,false,false,false,false,false,false,false,false] rfl rfl (take_ofW HT_.out HW_.out (by kernel_rfl)) (fun _ _ _ h=>h) (Or.inl ⟨by rfl,?_⟩) hHeld ?_ ?_
          rotate_left
          ·rintro w' ⟨s0,s1,s2,s3,s4,s5,s6,s7⟩
           go_simp
           with_reducible rfl
          rotate_left
          ·simp only [Act.put,List.setIfInBounds_toArray,List.set_cons_zero,List.set_cons_succ,i64_w,i32_w]
           rfl
          refine one_ (i:=5) (N:=some 23) #[true,true,true,true,true,true,false,false,false,false,false,false,false,false,false,false,false,false,false] rfl rfl (one_of HT_.out (by kernel_rfl)) (by decide) (fun K hK=>?_)
          refine goes_ Tryz.func67 (by kernel_rfl) rfl #[.string (rdOf ByteArray.empty l0_3 x3_1)] (by rfl) rfl rfl (by (try simp only [List.map_toArray,List.map_cons,List.map_nil]);first | done | rfl | (simp only [List.length_drop,List.length_take];rfl)) ?_
          with_reducible refine (r06_Var.calls k1 (rdOf ByteArray.empty l0_3 x3_1) true _ A9.out).mono ?_
          rintro e w17 ⟨rfl,hb⟩
          refine ⟨_,rfl,?_⟩
          have n0_:=As.mk (blk_below (g:=gb189) (o:=.cells #[.int .i64 a0_0,.string a0_1,.string a0_2,.slice (some ad193) l0_3.length c0_3,.string a0_4,.string a0_5] 34 (0,0)) (by (with_reducible repeat (first | refine kN ?_ _ | refine kD ?_ | refine kA ?_ _));exact BK189.out) hb)
          have n1_:=As.mk (bS (by repeat (first | (with_reducible first | exact HB.out | apply bA | apply bN | apply bD | refine bT ?_ GE189.out) | exact HB.out)) hb)
          clear BK189
          clear HB
          have BK189:=n0_
          have HB:=n1_
          clear n0_ n1_
          (try clear hb)
          (try clear hb2)
          (try clear hk)
          (try clear hi)
          obtain ⟨i018,hi018,_,hsz18,_⟩:=info_parts info9
          obtain ⟨hcut18,hA18,hC18⟩:=print_take_of (P:=Tryz.prog) Value.string (⟨#[]⟩ : ByteArray) 32 9 .i64 Tryz.underlying32 hi018 hsz18 (some ad193) c0_3 l0_3 x3_1 (of_decide_eq_true (by first | (with_reducible assumption) | assumption)) (of_decide_eq_true (by first | (with_reducible assumption) | assumption)) HC0_3.out
          have HR195:=As.mk (Kd.C_of_reads (h1:=fun _=>rfl) (hA18 _ (Kd.reads_of_C HR0_3.out)))
          have HC195:=As.mk hC18
          clear hA18 hC18 hi018 hsz18
          refine hK.out _ _ ⟨(bC BK189.out 0).trans rfl,(bC BK189.out 1).trans rfl,(bC BK189.out 2).trans rfl,(bC BK189.out 3).trans rfl,(bC BK189.out 4).trans rfl,(bC BK189.out 5).trans rfl,((HB.out.cell (World.block_lt_of_cell? w _ hw193_0)).trans hw193_0),((HB.out.cell (World.block_lt_of_cell? w _ hw196_0)).trans hw196_0)⟩ (fun hHeld=>?_)
          clear hK K
          refine norm_ (a':=?_) ?_ ?_
          rotate_left
          ·show Act.put _ (some 23) _ = _
           simp only [Act.put,List.setIfInBounds_toArray,List.set_cons_zero,List.set_cons_succ,i64_w,i32_w]
           rfl
          refine pure_ (i:=6) (N:=some 24) (v:=?_) (a':=?_) #[true,true,true,true,true,true,true,false,false,false,false,false,false,false,false,false,false,false,false] rfl rfl (any_of HT_.out (by kernel_rfl)) (fun _ _ _ h=>h) (Or.inl ⟨by rfl,?_⟩) ?_ ?_
          rotate_left
          ·intro w'
           go_simp
           with_reducible rfl
          rotate_left
          ·simp only [Act.put,List.setIfInBounds_toArray,List.set_cons_zero,List.set_cons_succ,i64_w,i32_w]
           rfl
          refine pure_ (i:=7) (N:=some 25) (v:=?_) (a':=?_) #[true,true,true,true,true,true,true,true,false,false,false,false,false,false,false,false,false,false,false] rfl rfl (any_of HT_.out (by kernel_rfl)) (fun _ _ _ h=>h) (Or.inl ⟨by rfl,?_⟩) ?_ ?_
          rotate_left
          ·intro w'
           go_simp
           with_reducible rfl
          rotate_left
          ·simp only [Act.put,List.setIfInBounds_toArray,List.set_cons_zero,List.set_cons_succ,i64_w,i32_w]
           rfl
          refine pure_ (i:=8) (N:=some 26) (v:=?_) (a':=?_) #[true,true,true,true,true,true,true,true,true,false,false,false,false,false,false,false,false,false,false] rfl rfl (any_of HT_.out (by kernel_rfl)) (fun _ _ _ h=>h) (Or.inl ⟨by rfl,?_⟩) ?_ ?_
          rotate_left
          ·intro w'
           go_simp
           with_reducible rfl
          rotate_left
          ·simp only [Act.put,List.setIfInBounds_toArray,List.set_cons_zero,List.set_cons_succ,i64_w,i32_w]
           rfl
          refine pure_ (i:=10) (N:=some 28) (v:=?_) (a':=?_) #[true,true,true,true,true,true,true,true,true,false,true,false,false,false,false,false,false,false,false] rfl rfl (any_of HT_.out (by kernel_rfl)) (fun _ _ _ h=>h) (Or.inl ⟨by rfl,?_⟩) ?_ ?_
          rotate_left
          ·intro w'
           go_simp
           with_reducible rfl
          rotate_left
          ·simp only [Act.put,List.setIfInBounds_toArray,List.set_cons_zero,List.set_cons_succ,i64_w,i32_w]
           rfl
          refine pure_ (i:=12) (N:=some 30) (v:=?_) (a':=?_) #[true,true,true,true,true,true,true,true,true,false,true,false,true,false,false,false,false,false,false] rfl rfl (any_of HT_.out (by kernel_rfl)) (fun _ _ _ h=>h) (Or.inl ⟨by rfl,?_⟩) ?_ ?_
          rotate_left
          ·intro w'
           go_simp
           with_reducible rfl
          rotate_left
          ·simp only [Act.put,List.setIfInBounds_toArray,List.set_cons_zero,List.set_cons_succ,i64_w,i32_w]
           rfl
          refine pure_ (i:=14) (N:=some 32) (v:=?_) (a':=?_) #[true,true,true,true,true,true,true,true,true,false,true,false,true,false,true,false,false,false,false] rfl rfl (any_of HT_.out (by kernel_rfl)) (fun _ _ _ h=>h) (Or.inl ⟨by rfl,?_⟩) ?_ ?_
          rotate_left
          ·intro w'
           go_simp
           with_reducible rfl
          rotate_left
          ·simp only [Act.put,List.setIfInBounds_toArray,List.set_cons_zero,List.set_cons_succ,i64_w,i32_w]
           rfl
          refine take_ (i:=9) (N:=some 27) (v:=?_) (a':=?_) #[true,true,true,true,true,true,true,true,true,true,true,false,true,false,true,false,false,false,false] rfl rfl (take_ofW HT_.out HW_.out (by kernel_rfl)) (fun _ _ _ h=>h) (Or.inl ⟨by rfl,?_⟩) hHeld ?_ ?_
          rotate_left
          ·rintro w' ⟨s0,s1,s2,s3,s4,s5,s6,s7⟩
           go_simp
           with_reducible rfl
          rotate_left
          ·simp only [Act.put,List.setIfInBounds_toArray,List.set_cons_zero,List.set_cons_succ,i64_w,i32_w]
           rfl
          refine pure_ (i:=11) (N:=some 29) (v:=?_) (a':=?_) #[true,true,true,true,true,true,true,true,true,true,true,true,true,false,true,false,false,false,false] rfl rfl (any_of HT_.out (by kernel_rfl)) (fun _ _ _ h=>h) (Or.inl ⟨by rfl,?_⟩) ?_ ?_
          rotate_left
          ·intro w'
           go_simp
           with_reducible rfl
          rotate_left
          ·simp only [Act.put,List.setIfInBounds_toArray,List.set_cons_zero,List.set_cons_succ,i64_w,i32_w]
           rfl
          refine take_ (i:=13) (N:=some 31) (v:=?_) (a':=?_) #[true,true,true,true,true,true,true,true,true,true,true,true,true,true,true,false,false,false,false] rfl rfl (take_ofW HT_.out HW_.out (by kernel_rfl)) (fun _ _ _ h=>h) (Or.inl ⟨by rfl,?_⟩) hHeld ?_ ?_
          rotate_left
          ·rintro w' ⟨s0,s1,s2,s3,s4,s5,s6,s7⟩
           go_simp
           with_reducible rfl
          rotate_left
          ·simp only [Act.put,List.setIfInBounds_toArray,List.set_cons_zero,List.set_cons_succ,i64_w,i32_w]
           rfl
          refine pure_ (i:=15) (N:=some 33) (v:=?_) (a':=?_) #[true,true,true,true,true,true,true,true,true,true,true,true,true,true,true,true,false,false,false] rfl rfl (any_of HT_.out (by kernel_rfl)) (fun _ _ _ h=>h) (Or.inl ⟨by rfl,?_⟩) ?_ ?_
          rotate_left
          ·intro w'
           go_simp
           with_reducible rfl
          rotate_left
          ·simp only [Act.put,List.setIfInBounds_toArray,List.set_cons_zero,List.set_cons_succ,i64_w,i32_w]
           rfl
          refine take_ (i:=16) (N:=some 34) (v:=?_) (a':=?_) #[true,true,true,true,true,true,true,true,true,true,true,true,true,true,true,true,true,false,false] rfl rfl (take_ofW HT_.out HW_.out (by kernel_rfl)) (fun _ _ _ h=>h) (Or.inl ⟨by rfl,?_⟩) hHeld ?_ ?_
          rotate_left
          ·rintro w' ⟨s0,s1,s2,s3,s4,s5,s6,s7⟩
           go_simp
           with_reducible rfl
          rotate_left
          ·simp only [Act.put,List.setIfInBounds_toArray,List.set_cons_zero,List.set_cons_succ,i64_w,i32_w]
           rfl
          refine one_ (i:=17) (N:=some 35) #[true,true,true,true,true,true,true,true,true,true,true,true,true,true,true,true,true,true,false] rfl rfl (one_of HT_.out (by kernel_rfl)) (by decide) (fun K hK=>?_)
          refine goes_ Tryz.func68 (by kernel_rfl) rfl #[.slice (some ad193) (l0_3.take (x3_1 : Int).toNat).length c0_3,.string (rdOf ByteArray.empty l0_3 x3_1)] (by rfl) rfl rfl (by (try simp only [List.map_toArray,List.map_cons,List.map_nil]);first | done | (rw [show (l0_3.take (x3_1 : Int).toNat).length = x3_1.toNat from (by rw [List.length_take];have h_ : (x3_1 : Int) ≤ (l0_3.length : Int):=of_decide_eq_true (by first | (with_reducible assumption) | assumption);omega)] <;> rfl) | rfl | (simp only [List.length_drop,List.length_take];rfl)) ?_
          with_reducible refine (r06_In.calls k1 _ _ (l0_3.take (x3_1 : Int).toNat) (rdOf ByteArray.empty l0_3 x3_1) true _ ?side1 ?side2 A13.out).mono ?_
          (case side1=>repeat (first | exact (Kd.C_below HR195.out HB.out) | (with_reducible refine Kd.C_alloc ?_ _) | (with_reducible refine Kd.C_drewN ?_ _) | (with_reducible refine Kd.C_drew ?_)))
          (case side2=>exact HC195.out)
          rintro e w' ⟨rfl,⟨nd,rfl⟩⟩
          refine ⟨_,rfl,?_⟩
          refine hK.out _ _ ⟨(bC BK189.out 0).trans rfl,(bC BK189.out 1).trans rfl,(bC BK189.out 2).trans rfl,(bC BK189.out 3).trans rfl,(bC BK189.out 4).trans rfl,(bC BK189.out 5).trans rfl,((HB.out.cell (World.block_lt_of_cell? w _ hw193_0)).trans hw193_0),((HB.out.cell (World.block_lt_of_cell? w _ hw196_0)).trans hw196_0)⟩ (fun hHeld=>?_)
          clear hK K
          refine norm_ (a':=?_) ?_ ?_
          rotate_left
          ·show Act.put _ (some 35) _ = _
           simp only [Act.put,List.setIfInBounds_toArray,List.set_cons_zero,List.set_cons_succ,i64_w,i32_w]
           rfl
          refine pure_ (i:=18) (N:=some 36) (v:=?_) (a':=?_) #[true,true,true,true,true,true,true,true,true,true,true,true,true,true,true,true,true,true,true] rfl rfl (any_of HT_.out (by kernel_rfl)) (fun _ _ _ h=>h) (Or.inl ⟨by rfl,?_⟩) ?_ ?_
          rotate_left
          ·intro w'
           go_simp
           with_reducible rfl
          rotate_left
          ·simp only [Act.put,List.setIfInBounds_toArray,List.set_cons_zero,List.set_cons_succ,i64_w,i32_w]
           rfl
          refine done_ (done_of HT_.out (by kernel_rfl)) ?_
          try go_wp2
          go_ret
          exact ⟨by first | rfl | (simp [eN,eS] <;> rfl) | (simp [*,eN,eS] <;> rfl),by repeat (first | (with_reducible first | exact HB.out | apply bA | apply bN | apply bD | refine bT ?_ GE189.out) | exact HB.out)⟩
         ·replace c14:=Bool.eq_false_iff.mpr c14
          subst c14
          have H1 : (r07_Right.l0 k1 (wrap64 (x3_1 + 1)) a0_0 a0_1 a0_2 l0_3 a0_4 a0_5) = some r:=by rw [if_neg (show ¬ (false = true) by decide)] at H;exact H
          clear H
          have H:=H1
          clear H1
          have H':=As.mk H
          clear H
          have hcz19_0 : wr.cell? ⟨gb189,0,none⟩ = some (.int .i64 a0_0):=(bC BK189.out 0).trans rfl
          have hcz19_1 : wr.cell? ⟨gb189,1,none⟩ = some (.string a0_1):=(bC BK189.out 1).trans rfl
          have hcz19_2 : wr.cell? ⟨gb189,2,none⟩ = some (.string a0_2):=(bC BK189.out 2).trans rfl
          have hcz19_3 : wr.cell? ⟨gb189,3,none⟩ = some (.slice A0_3 l0_3.length c0_3):=(bC BK189.out 3).trans rfl
          have hcz19_4 : wr.cell? ⟨gb189,4,none⟩ = some (.string a0_4):=(bC BK189.out 4).trans rfl
          have hcz19_5 : wr.cell? ⟨gb189,5,none⟩ = some (.string a0_5):=(bC BK189.out 5).trans rfl
          have hfz19_0:=bF BK189.out 0
          have hfz19_1:=bF BK189.out 1
          have hfz19_2:=bF BK189.out 2
          have hfz19_3:=bF BK189.out 3
          have hfz19_4:=bF BK189.out 4
          have hfz19_5:=bF BK189.out 5
          try go_wp2
          have n0_:=As.mk (kD BK189.out)
          have n1_:=As.mk (bD HB.out)
          clear BK189
          clear HB
          have BK189:=n0_
          have HB:=n1_
          clear n0_ n1_
          have p193 : 0 ≤ (x3_1 : Int):=of_decide_eq_true (by first | (with_reducible assumption) | assumption)
          have q193 : x3_1 < (l0_3.length : Int):=of_decide_eq_true (by first | (with_reducible assumption) | assumption)
          obtain ⟨ad193,e193,hx193_0⟩:=Kd.at_string HR0_3.out x3_1 p193 q193
          have hw193_0:=hx193_0
          cases e193
          replace hx193_0:=(HB.out.cell (World.block_lt_of_cell? w _ hx193_0)).trans hx193_0
          replace p193:=eq_true p193
          replace q193:=eq_true q193
          have p196 : 0 ≤ (x3_1 : Int):=of_decide_eq_true (by first | (with_reducible assumption) | assumption)
          have q196 : x3_1 < (l0_3.length : Int):=of_decide_eq_true (by first | (with_reducible assumption) | assumption)
          obtain ⟨ad196,e196,hx196_0⟩:=Kd.at_string HR0_3.out x3_1 p196 q196
          have hw196_0:=hx196_0
          obtain rfl : ad193 = ad196:=(by injection e196)
          replace hx196_0:=(HB.out.cell (World.block_lt_of_cell? w _ hx196_0)).trans hx196_0
          replace p196:=eq_true p196
          replace q196:=eq_true q196
          refine start_ (n:=19) (S:=fun w'=>w'.cell? ⟨gb189,0,none⟩ = some (.int .i64 a0_0) ∧ w'.cell? ⟨gb189,1,none⟩ = some (.string a0_1) ∧ w'.cell? ⟨gb189,2,none⟩ = some (.string a0_2) ∧ w'.cell? ⟨gb189,3,none⟩ = some (.slice (some ad193) l0_3.length c0_3) ∧ w'.cell? ⟨gb189,4,none⟩ = some (.string a0_4) ∧ w'.cell? ⟨gb189,5,none⟩ = some (.string a0_5) ∧ w'.cell? (ad193.add (x3_1).toNat) = some (.string (rdOf ByteArray.empty l0_3 x3_1)) ∧ w'.cell? (ad193.add (x3_1).toNat) = some (.string (rdOf ByteArray.empty l0_3 x3_1))) (ds:=[]) #[false,false,false,false,false,false,false,false,false,false,false,false,false,false,false,false,false,false,false] (by kernel_rfl) rfl rfl ⟨(bC BK189.out 0).trans rfl,(bC BK189.out 1).trans rfl,(bC BK189.out 2).trans rfl,(bC BK189.out 3).trans rfl,(bC BK189.out 4).trans rfl,(bC BK189.out 5).trans rfl,((HB.out.cell (World.block_lt_of_cell? w _ hw193_0)).trans hw193_0),((HB.out.cell (World.block_lt_of_cell? w _ hw196_0)).trans hw196_0)⟩ (fun hHeld=>?_);refine with_tabW r07_Right.tab7 r07_Right.bits7 (fun HT_ HW_=>?_)
          generalize wr.drew = w20 at BK189 HB hx193_0 hx196_0 hHeld ⊢
          refine pure_ (i:=0) (N:=some 18) (v:=?_) (a':=?_) #[true,false,false,false,false,false,false,false,false,false,false,false,false,false,false,false,false,false,false] rfl rfl (any_of HT_.out (by kernel_rfl)) (fun _ _ _ h=>h) (Or.inl ⟨by rfl,?_⟩) ?_ ?_
          rotate_left
          ·intro w'
           go_simp
           with_reducible rfl
          rotate_left
          ·simp only [Act.put,List.setIfInBounds_toArray,List.set_cons_zero,List.set_cons_succ,i64_w,i32_w]
           rfl
          refine pure_ (i:=2) (N:=some 20) (v:=?_) (a':=?_) #[true,false,true,false,false,false,false,false,false,false,false,false,false,false,false,false,false,false,false] rfl rfl (any_of HT_.out (by kernel_rfl)) (fun _ _ _ h=>h) (Or.inl ⟨by rfl,?_⟩) ?_ ?_
          rotate_left
          ·intro w'
           go_simp
           with_reducible rfl
          rotate_left
          ·simp only [Act.put,List.setIfInBounds_toArray,List.set_cons_zero,List.set_cons_succ,i64_w,i32_w]
           rfl
          refine take_ (i:=1) (N:=some 19) (v:=?_) (a':=?_) #[true,true,true,false,false,false,false,false,false,false,false,false,false,false,false,false,false,false,false] rfl rfl (take_ofW HT_.out HW_.out (by kernel_rfl)) (fun _ _ _ h=>h) (Or.inl ⟨by rfl,?_⟩) hHeld ?_ ?_
          rotate_left
          ·rintro w' ⟨s0,s1,s2,s3,s4,s5,s6,s7⟩
           go_simp
           with_reducible rfl
          rotate_left
          ·simp only [Act.put,List.setIfInBounds_toArray,List.set_cons_zero,List.set_cons_succ,i64_w,i32_w]
           rfl
          refine pure_ (i:=3) (N:=some 21) (v:=?_) (a':=?_) #[true,true,true,true,false,false,false,false,false,false,false,false,false,false,false,false,false,false,false] rfl rfl (any_of HT_.out (by kernel_rfl)) (fun _ _ _ h=>h) (Or.inl ⟨by rfl,?_⟩) ?_ ?_
          rotate_left
          ·intro w'
           go_simp
           with_reducible rfl
          rotate_left
          ·simp only [Act.put,List.setIfInBounds_toArray,List.set_cons_zero,List.set_cons_succ,i64_w,i32_w]
           rfl
          refine take_ (i:=4) (N:=some 22) (v:=?_) (a':=?_) #[true,true,true,true,true,false,false,false,false,false,false,false,false,false,false,false,false,false,false] rfl rfl (take_ofW HT_.out HW_.out (by kernel_rfl)) (fun _ _ _ h=>h) (Or.inl ⟨by rfl,?_⟩) hHeld ?_ ?_
          rotate_left
          ·rintro w' ⟨s0,s1,s2,s3,s4,s5,s6,s7⟩
           go_simp
           with_reducible rfl
          rotate_left
          ·simp only [Act.put,List.setIfInBounds_toArray,List.set_cons_zero,List.set_cons_succ,i64_w,i32_w]
           rfl
          refine one_ (i:=5) (N:=some 23) #[true,true,true,true,true,true,false,false,false,false,false,false,false,false,false,false,false,false,false] rfl rfl (one_of HT_.out (by kernel_rfl)) (by decide) (fun K hK=>?_)
          refine goes_ Tryz.func67 (by kernel_rfl) rfl #[.string (rdOf ByteArray.empty l0_3 x3_1)] (by rfl) rfl rfl (by (try simp only [List.map_toArray,List.map_cons,List.map_nil]);first | done | rfl | (simp only [List.length_drop,List.length_take];rfl)) ?_
          with_reducible refine (r06_Var.calls k1 (rdOf ByteArray.empty l0_3 x3_1) true _ A9.out).mono ?_
          rintro e w21 ⟨rfl,hb⟩
          refine ⟨_,rfl,?_⟩
          have n0_:=As.mk (blk_below (g:=gb189) (o:=.cells #[.int .i64 a0_0,.string a0_1,.string a0_2,.slice (some ad193) l0_3.length c0_3,.string a0_4,.string a0_5] 34 (0,0)) (by (with_reducible repeat (first | refine kN ?_ _ | refine kD ?_ | refine kA ?_ _));exact BK189.out) hb)
          have n1_:=As.mk (bS (by repeat (first | (with_reducible first | exact HB.out | apply bA | apply bN | apply bD | refine bT ?_ GE189.out) | exact HB.out)) hb)
          clear BK189
          clear HB
          have BK189:=n0_
          have HB:=n1_
          clear n0_ n1_
          (try clear hb)
          (try clear hb2)
          (try clear hk)
          (try clear hi)
          obtain ⟨i022,hi022,_,hsz22,_⟩:=info_parts info9
          obtain ⟨hcut22,hA22,hC22⟩:=print_take_of (P:=Tryz.prog) Value.string (⟨#[]⟩ : ByteArray) 32 9 .i64 Tryz.underlying32 hi022 hsz22 (some ad193) c0_3 l0_3 x3_1 (of_decide_eq_true (by first | (with_reducible assumption) | assumption)) (of_decide_eq_true (by first | (with_reducible assumption) | assumption)) HC0_3.out
          have HR195:=As.mk (Kd.C_of_reads (h1:=fun _=>rfl) (hA22 _ (Kd.reads_of_C HR0_3.out)))
          have HC195:=As.mk hC22
          clear hA22 hC22 hi022 hsz22
          refine hK.out _ _ ⟨(bC BK189.out 0).trans rfl,(bC BK189.out 1).trans rfl,(bC BK189.out 2).trans rfl,(bC BK189.out 3).trans rfl,(bC BK189.out 4).trans rfl,(bC BK189.out 5).trans rfl,((HB.out.cell (World.block_lt_of_cell? w _ hw193_0)).trans hw193_0),((HB.out.cell (World.block_lt_of_cell? w _ hw196_0)).trans hw196_0)⟩ (fun hHeld=>?_)
          clear hK K
          refine norm_ (a':=?_) ?_ ?_
          rotate_left
          ·show Act.put _ (some 23) _ = _
           simp only [Act.put,List.setIfInBounds_toArray,List.set_cons_zero,List.set_cons_succ,i64_w,i32_w]
           rfl
          refine pure_ (i:=6) (N:=some 24) (v:=?_) (a':=?_) #[true,true,true,true,true,true,true,false,false,false,false,false,false,false,false,false,false,false,false] rfl rfl (any_of HT_.out (by kernel_rfl)) (fun _ _ _ h=>h) (Or.inl ⟨by rfl,?_⟩) ?_ ?_
          rotate_left
          ·intro w'
           go_simp
           with_reducible rfl
          rotate_left
          ·simp only [Act.put,List.setIfInBounds_toArray,List.set_cons_zero,List.set_cons_succ,i64_w,i32_w]
           rfl
          refine pure_ (i:=7) (N:=some 25) (v:=?_) (a':=?_) #[true,true,true,true,true,true,true,true,false,false,false,false,false,false,false,false,false,false,false] rfl rfl (any_of HT_.out (by kernel_rfl)) (fun _ _ _ h=>h) (Or.inl ⟨by rfl,?_⟩) ?_ ?_
          rotate_left
          ·intro w'
           go_simp
           with_reducible rfl
          rotate_left
          ·simp only [Act.put,List.setIfInBounds_toArray,List.set_cons_zero,List.set_cons_succ,i64_w,i32_w]
           rfl
          refine pure_ (i:=8) (N:=some 26) (v:=?_) (a':=?_) #[true,true,true,true,true,true,true,true,true,false,false,false,false,false,false,false,false,false,false] rfl rfl (any_of HT_.out (by kernel_rfl)) (fun _ _ _ h=>h) (Or.inl ⟨by rfl,?_⟩) ?_ ?_
          rotate_left
          ·intro w'
           go_simp
           with_reducible rfl
          rotate_left
          ·simp only [Act.put,List.setIfInBounds_toArray,List.set_cons_zero,List.set_cons_succ,i64_w,i32_w]
           rfl
          refine pure_ (i:=10) (N:=some 28) (v:=?_) (a':=?_) #[true,true,true,true,true,true,true,true,true,false,true,false,false,false,false,false,false,false,false] rfl rfl (any_of HT_.out (by kernel_rfl)) (fun _ _ _ h=>h) (Or.inl ⟨by rfl,?_⟩) ?_ ?_
          rotate_left
          ·intro w'
           go_simp
           with_reducible rfl
          rotate_left
          ·simp only [Act.put,List.setIfInBounds_toArray,List.set_cons_zero,List.set_cons_succ,i64_w,i32_w]
           rfl
          refine pure_ (i:=12) (N:=some 30) (v:=?_) (a':=?_) #[true,true,true,true,true,true,true,true,true,false,true,false,true,false,false,false,false,false,false] rfl rfl (any_of HT_.out (by kernel_rfl)) (fun _ _ _ h=>h) (Or.inl ⟨by rfl,?_⟩) ?_ ?_
          rotate_left
          ·intro w'
           go_simp
           with_reducible rfl
          rotate_left
          ·simp only [Act.put,List.setIfInBounds_toArray,List.set_cons_zero,List.set_cons_succ,i64_w,i32_w]
           rfl
          refine pure_ (i:=14) (N:=some 32) (v:=?_) (a':=?_) #[true,true,true,true,true,true,true,true,true,false,true,false,true,false,true,false,false,false,false] rfl rfl (any_of HT_.out (by kernel_rfl)) (fun _ _ _ h=>h) (Or.inl ⟨by rfl,?_⟩) ?_ ?_
          rotate_left
          ·intro w'
           go_simp
           with_reducible rfl
          rotate_left
          ·simp only [Act.put,List.setIfInBounds_toArray,List.set_cons_zero,List.set_cons_succ,i64_w,i32_w]
           rfl
          refine take_ (i:=9) (N:=some 27) (v:=?_) (a':=?_) #[true,true,true,true,true,true,true,true,true,true,true,false,true,false,true,false,false,false,false] rfl rfl (take_ofW HT_.out HW_.out (by kernel_rfl)) (fun _ _ _ h=>h) (Or.inl ⟨by rfl,?_⟩) hHeld ?_ ?_
          rotate_left
          ·rintro w' ⟨s0,s1,s2,s3,s4,s5,s6,s7⟩
           go_simp
           with_reducible rfl
          rotate_left
          ·simp only [Act.put,List.setIfInBounds_toArray,List.set_cons_zero,List.set_cons_succ,i64_w,i32_w]
           rfl
          refine pure_ (i:=11) (N:=some 29) (v:=?_) (a':=?_) #[true,true,true,true,true,true,true,true,true,true,true,true,true,false,true,false,false,false,false] rfl rfl (any_of HT_.out (by kernel_rfl)) (fun _ _ _ h=>h) (Or.inl ⟨by rfl,?_⟩) ?_ ?_
          rotate_left
          ·intro w'
           go_simp
           with_reducible rfl
          rotate_left
          ·simp only [Act.put,List.setIfInBounds_toArray,List.set_cons_zero,List.set_cons_succ,i64_w,i32_w]
           rfl
          refine take_ (i:=13) (N:=some 31) (v:=?_) (a':=?_) #[true,true,true,true,true,true,true,true,true,true,true,true,true,true,true,false,false,false,false] rfl rfl (take_ofW HT_.out HW_.out (by kernel_rfl)) (fun _ _ _ h=>h) (Or.inl ⟨by rfl,?_⟩) hHeld ?_ ?_
          rotate_left
          ·rintro w' ⟨s0,s1,s2,s3,s4,s5,s6,s7⟩
           go_simp
           with_reducible rfl
          rotate_left
          ·simp only [Act.put,List.setIfInBounds_toArray,List.set_cons_zero,List.set_cons_succ,i64_w,i32_w]
           rfl
          refine pure_ (i:=15) (N:=some 33) (v:=?_) (a':=?_) #[true,true,true,true,true,true,true,true,true,true,true,true,true,true,true,true,false,false,false] rfl rfl (any_of HT_.out (by kernel_rfl)) (fun _ _ _ h=>h) (Or.inl ⟨by rfl,?_⟩) ?_ ?_
          rotate_left
          ·intro w'
           go_simp
           with_reducible rfl
          rotate_left
          ·simp only [Act.put,List.setIfInBounds_toArray,List.set_cons_zero,List.set_cons_succ,i64_w,i32_w]
           rfl
          refine take_ (i:=16) (N:=some 34) (v:=?_) (a':=?_) #[true,true,true,true,true,true,true,true,true,true,true,true,true,true,true,true,true,false,false] rfl rfl (take_ofW HT_.out HW_.out (by kernel_rfl)) (fun _ _ _ h=>h) (Or.inl ⟨by rfl,?_⟩) hHeld ?_ ?_
          rotate_left
          ·rintro w' ⟨s0,s1,s2,s3,s4,s5,s6,s7⟩
           go_simp
           with_reducible rfl
          rotate_left
          ·simp only [Act.put,List.setIfInBounds_toArray,List.set_cons_zero,List.set_cons_succ,i64_w,i32_w]
           rfl
          refine one_ (i:=17) (N:=some 35) #[true,true,true,true,true,true,true,true,true,true,true,true,true,true,true,true,true,true,false] rfl rfl (one_of HT_.out (by kernel_rfl)) (by decide) (fun K hK=>?_)
          refine goes_ Tryz.func68 (by kernel_rfl) rfl #[.slice (some ad193) (l0_3.take (x3_1 : Int).toNat).length c0_3,.string (rdOf ByteArray.empty l0_3 x3_1)] (by rfl) rfl rfl (by (try simp only [List.map_toArray,List.map_cons,List.map_nil]);first | done | (rw [show (l0_3.take (x3_1 : Int).toNat).length = x3_1.toNat from (by rw [List.length_take];have h_ : (x3_1 : Int) ≤ (l0_3.length : Int):=of_decide_eq_true (by first | (with_reducible assumption) | assumption);omega)] <;> rfl) | rfl | (simp only [List.length_drop,List.length_take];rfl)) ?_
          with_reducible refine (r06_In.calls k1 _ _ (l0_3.take (x3_1 : Int).toNat) (rdOf ByteArray.empty l0_3 x3_1) false _ ?side1 ?side2 A13.out).mono ?_
          (case side1=>repeat (first | exact (Kd.C_below HR195.out HB.out) | (with_reducible refine Kd.C_alloc ?_ _) | (with_reducible refine Kd.C_drewN ?_ _) | (with_reducible refine Kd.C_drew ?_)))
          (case side2=>exact HC195.out)
          rintro e w' ⟨rfl,⟨nd,rfl⟩⟩
          refine ⟨_,rfl,?_⟩
          refine hK.out _ _ ⟨(bC BK189.out 0).trans rfl,(bC BK189.out 1).trans rfl,(bC BK189.out 2).trans rfl,(bC BK189.out 3).trans rfl,(bC BK189.out 4).trans rfl,(bC BK189.out 5).trans rfl,((HB.out.cell (World.block_lt_of_cell? w _ hw193_0)).trans hw193_0),((HB.out.cell (World.block_lt_of_cell? w _ hw196_0)).trans hw196_0)⟩ (fun hHeld=>?_)
          clear hK K
          refine norm_ (a':=?_) ?_ ?_
          rotate_left
          ·show Act.put _ (some 35) _ = _
           simp only [Act.put,List.setIfInBounds_toArray,List.set_cons_zero,List.set_cons_succ,i64_w,i32_w]
           rfl
          refine pure_ (i:=18) (N:=some 36) (v:=?_) (a':=?_) #[true,true,true,true,true,true,true,true,true,true,true,true,true,true,true,true,true,true,true] rfl rfl (any_of HT_.out (by kernel_rfl)) (fun _ _ _ h=>h) (Or.inl ⟨by rfl,?_⟩) ?_ ?_
          rotate_left
          ·intro w'
           go_simp
           with_reducible rfl
          rotate_left
          ·simp only [Act.put,List.setIfInBounds_toArray,List.set_cons_zero,List.set_cons_succ,i64_w,i32_w]
           rfl
          refine done_ (done_of HT_.out (by kernel_rfl)) ?_
          try go_wp2
          go_roundg k1
          case measure=>have:=HK1.out;omega
          case rel=>exact ⟨(wrap64 (x3_1 + 1)),(by first | rfl | (simp;done) | (simp [*];done)),H',⟨by have:=HK1.out;omega⟩,⟨by (with_reducible repeat (first | refine kN ?_ _ | refine kD ?_ | refine kA ?_ _));exact BK189.out⟩,⟨by repeat (first | (with_reducible first | exact HB.out | apply bA | apply bN | apply bD | refine bT ?_ GE189.out) | exact HB.out)⟩⟩
        ·rw [if_neg c12] at H
         exact absurd H (by simp)
       ·replace c10:=Bool.eq_false_iff.mpr c10
        subst c10
        have H1 : (some false) = some r:=by rw [if_neg (show ¬ (false = true) by decide)] at H;exact H
        clear H
        have H:=H1
        clear H1
        obtain rfl:=Option.some.inj H
        have hcz23_0 : wr.cell? ⟨gb189,0,none⟩ = some (.int .i64 a0_0):=(bC BK189.out 0).trans rfl
        have hcz23_1 : wr.cell? ⟨gb189,1,none⟩ = some (.string a0_1):=(bC BK189.out 1).trans rfl
        have hcz23_2 : wr.cell? ⟨gb189,2,none⟩ = some (.string a0_2):=(bC BK189.out 2).trans rfl
        have hcz23_3 : wr.cell? ⟨gb189,3,none⟩ = some (.slice A0_3 l0_3.length c0_3):=(bC BK189.out 3).trans rfl
        have hcz23_4 : wr.cell? ⟨gb189,4,none⟩ = some (.string a0_4):=(bC BK189.out 4).trans rfl
        have hcz23_5 : wr.cell? ⟨gb189,5,none⟩ = some (.string a0_5):=(bC BK189.out 5).trans rfl
        have hfz23_0:=bF BK189.out 0
        have hfz23_1:=bF BK189.out 1
        have hfz23_2:=bF BK189.out 2
        have hfz23_3:=bF BK189.out 3
        have hfz23_4:=bF BK189.out 4
        have hfz23_5:=bF BK189.out 5
        try go_wp2
        have n0_:=As.mk (kD BK189.out)
        have n1_:=As.mk (bD HB.out)
        clear BK189
        clear HB
        have BK189:=n0_
        have HB:=n1_
        clear n0_ n1_
        have p193 : 0 ≤ (x3_1 : Int):=of_decide_eq_true (by first | (with_reducible assumption) | assumption)
        have q193 : x3_1 < (l0_3.length : Int):=of_decide_eq_true (by first | (with_reducible assumption) | assumption)
        obtain ⟨ad193,e193,hx193_0⟩:=Kd.at_string HR0_3.out x3_1 p193 q193
        have hw193_0:=hx193_0
        cases e193
        replace hx193_0:=(HB.out.cell (World.block_lt_of_cell? w _ hx193_0)).trans hx193_0
        replace p193:=eq_true p193
        replace q193:=eq_true q193
        refine start_ (n:=19) (S:=fun w'=>w'.cell? ⟨gb189,0,none⟩ = some (.int .i64 a0_0) ∧ w'.cell? ⟨gb189,1,none⟩ = some (.string a0_1) ∧ w'.cell? ⟨gb189,2,none⟩ = some (.string a0_2) ∧ w'.cell? ⟨gb189,3,none⟩ = some (.slice (some ad193) l0_3.length c0_3) ∧ w'.cell? ⟨gb189,4,none⟩ = some (.string a0_4) ∧ w'.cell? ⟨gb189,5,none⟩ = some (.string a0_5) ∧ w'.cell? (ad193.add (x3_1).toNat) = some (.string (rdOf ByteArray.empty l0_3 x3_1))) (ds:=[]) #[false,false,false,false,false,false,false,false,false,false,false,false,false,false,false,false,false,false,false] (by kernel_rfl) rfl rfl ⟨(bC BK189.out 0).trans rfl,(bC BK189.out 1).trans rfl,(bC BK189.out 2).trans rfl,(bC BK189.out 3).trans rfl,(bC BK189.out 4).trans rfl,(bC BK189.out 5).trans rfl,((HB.out.cell (World.block_lt_of_cell? w _ hw193_0)).trans hw193_0)⟩ (fun hHeld=>?_);refine with_tabW r07_Right.tab7 r07_Right.bits7 (fun HT_ HW_=>?_)
        generalize wr.drew = w24 at BK189 HB hx193_0 hHeld ⊢
        refine pure_ (i:=0) (N:=some 18) (v:=?_) (a':=?_) #[true,false,false,false,false,false,false,false,false,false,false,false,false,false,false,false,false,false,false] rfl rfl (any_of HT_.out (by kernel_rfl)) (fun _ _ _ h=>h) (Or.inl ⟨by rfl,?_⟩) ?_ ?_
        rotate_left
        ·intro w'
         go_simp
         with_reducible rfl
        rotate_left
        ·simp only [Act.put,List.setIfInBounds_toArray,List.set_cons_zero,List.set_cons_succ,i64_w,i32_w]
         rfl
        refine pure_ (i:=2) (N:=some 20) (v:=?_) (a':=?_) #[true,false,true,false,false,false,false,false,false,false,false,false,false,false,false,false,false,false,false] rfl rfl (any_of HT_.out (by kernel_rfl)) (fun _ _ _ h=>h) (Or.inl ⟨by rfl,?_⟩) ?_ ?_
        rotate_left
        ·intro w'
         go_simp
         with_reducible rfl
        rotate_left
        ·simp only [Act.put,List.setIfInBounds_toArray,List.set_cons_zero,List.set_cons_succ,i64_w,i32_w]
         rfl
        refine take_ (i:=1) (N:=some 19) (v:=?_) (a':=?_) #[true,true,true,false,false,false,false,false,false,false,false,false,false,false,false,false,false,false,false] rfl rfl (take_ofW HT_.out HW_.out (by kernel_rfl)) (fun _ _ _ h=>h) (Or.inl ⟨by rfl,?_⟩) hHeld ?_ ?_
        rotate_left
        ·rintro w' ⟨s0,s1,s2,s3,s4,s5,s6⟩
         go_simp
         with_reducible rfl
        rotate_left
        ·simp only [Act.put,List.setIfInBounds_toArray,List.set_cons_zero,List.set_cons_succ,i64_w,i32_w]
         rfl
        refine pure_ (i:=3) (N:=some 21) (v:=?_) (a':=?_) #[true,true,true,true,false,false,false,false,false,false,false,false,false,false,false,false,false,false,false] rfl rfl (any_of HT_.out (by kernel_rfl)) (fun _ _ _ h=>h) (Or.inl ⟨by rfl,?_⟩) ?_ ?_
        rotate_left
        ·intro w'
         go_simp
         with_reducible rfl
        rotate_left
        ·simp only [Act.put,List.setIfInBounds_toArray,List.set_cons_zero,List.set_cons_succ,i64_w,i32_w]
         rfl
        refine take_ (i:=4) (N:=some 22) (v:=?_) (a':=?_) #[true,true,true,true,true,false,false,false,false,false,false,false,false,false,false,false,false,false,false] rfl rfl (take_ofW HT_.out HW_.out (by kernel_rfl)) (fun _ _ _ h=>h) (Or.inl ⟨by rfl,?_⟩) hHeld ?_ ?_
        rotate_left
        ·rintro w' ⟨s0,s1,s2,s3,s4,s5,s6⟩
         go_simp
         with_reducible rfl
        rotate_left
        ·simp only [Act.put,List.setIfInBounds_toArray,List.set_cons_zero,List.set_cons_succ,i64_w,i32_w]
         rfl
        refine one_ (i:=5) (N:=some 23) #[true,true,true,true,true,true,false,false,false,false,false,false,false,false,false,false,false,false,false] rfl rfl (one_of HT_.out (by kernel_rfl)) (by decide) (fun K hK=>?_)
        refine goes_ Tryz.func67 (by kernel_rfl) rfl #[.string (rdOf ByteArray.empty l0_3 x3_1)] (by rfl) rfl rfl (by (try simp only [List.map_toArray,List.map_cons,List.map_nil]);first | done | rfl | (simp only [List.length_drop,List.length_take];rfl)) ?_
        with_reducible refine (r06_Var.calls k1 (rdOf ByteArray.empty l0_3 x3_1) false _ A9.out).mono ?_
        rintro e w25 ⟨rfl,hb⟩
        refine ⟨_,rfl,?_⟩
        have n0_:=As.mk (blk_below (g:=gb189) (o:=.cells #[.int .i64 a0_0,.string a0_1,.string a0_2,.slice (some ad193) l0_3.length c0_3,.string a0_4,.string a0_5] 34 (0,0)) (by (with_reducible repeat (first | refine kN ?_ _ | refine kD ?_ | refine kA ?_ _));exact BK189.out) hb)
        have n1_:=As.mk (bS (by repeat (first | (with_reducible first | exact HB.out | apply bA | apply bN | apply bD | refine bT ?_ GE189.out) | exact HB.out)) hb)
        clear BK189
        clear HB
        have BK189:=n0_
        have HB:=n1_
        clear n0_ n1_
        (try clear hb)
        (try clear hb2)
        (try clear hk)
        (try clear hi)
        refine hK.out _ _ ⟨(bC BK189.out 0).trans rfl,(bC BK189.out 1).trans rfl,(bC BK189.out 2).trans rfl,(bC BK189.out 3).trans rfl,(bC BK189.out 4).trans rfl,(bC BK189.out 5).trans rfl,((HB.out.cell (World.block_lt_of_cell? w _ hw193_0)).trans hw193_0)⟩ (fun hHeld=>?_)
        clear hK K
        refine norm_ (a':=?_) ?_ ?_
        rotate_left
        ·show Act.put _ (some 23) _ = _
         simp only [Act.put,List.setIfInBounds_toArray,List.set_cons_zero,List.set_cons_succ,i64_w,i32_w]
         rfl
        refine pure_ (i:=6) (N:=some 24) (v:=?_) (a':=?_) #[true,true,true,true,true,true,true,false,false,false,false,false,false,false,false,false,false,false,false] rfl rfl (any_of HT_.out (by kernel_rfl)) (fun _ _ _ h=>h) (Or.inl ⟨by rfl,?_⟩) ?_ ?_
        rotate_left
        ·intro w'
         go_simp
         with_reducible rfl
        rotate_left
        ·simp only [Act.put,List.setIfInBounds_toArray,List.set_cons_zero,List.set_cons_succ,i64_w,i32_w]
         rfl
        refine pure_ (i:=7) (N:=some 25) (v:=?_) (a':=?_) #[true,true,true,true,true,true,true,true,false,false,false,false,false,false,false,false,false,false,false] rfl rfl (any_of HT_.out (by kernel_rfl)) (fun _ _ _ h=>h) (Or.inl ⟨by rfl,?_⟩) ?_ ?_
        rotate_left
        ·intro w'
         go_simp
         with_reducible rfl
        rotate_left
        ·simp only [Act.put,List.setIfInBounds_toArray,List.set_cons_zero,List.set_cons_succ,i64_w,i32_w]
         rfl
        refine pure_ (i:=8) (N:=some 26) (v:=undef) (a':=?_) #[true,true,true,true,true,true,true,true,true,false,false,false,false,false,false,false,false,false,false] rfl rfl (any_of HT_.out (by kernel_rfl)) (fun _ _ _ h=>h) (Or.inr ⟨by rfl,rfl⟩) ?_ ?_
        rotate_left
        ·simp only [Act.put,List.setIfInBounds_toArray,List.set_cons_zero,List.set_cons_succ,i64_w,i32_w]
         rfl
        refine pure_ (i:=9) (N:=some 27) (v:=undef) (a':=?_) #[true,true,true,true,true,true,true,true,true,true,false,false,false,false,false,false,false,false,false] rfl rfl (any_of HT_.out (by kernel_rfl)) (fun _ _ _ h=>h) (Or.inr ⟨by rfl,rfl⟩) ?_ ?_
        rotate_left
        ·simp only [Act.put,List.setIfInBounds_toArray,List.set_cons_zero,List.set_cons_succ,i64_w,i32_w]
         rfl
        refine pure_ (i:=10) (N:=some 28) (v:=undef) (a':=?_) #[true,true,true,true,true,true,true,true,true,true,true,false,false,false,false,false,false,false,false] rfl rfl (any_of HT_.out (by kernel_rfl)) (fun _ _ _ h=>h) (Or.inr ⟨by rfl,rfl⟩) ?_ ?_
        rotate_left
        ·simp only [Act.put,List.setIfInBounds_toArray,List.set_cons_zero,List.set_cons_succ,i64_w,i32_w]
         rfl
        refine pure_ (i:=11) (N:=some 29) (v:=undef) (a':=?_) #[true,true,true,true,true,true,true,true,true,true,true,true,false,false,false,false,false,false,false] rfl rfl (any_of HT_.out (by kernel_rfl)) (fun _ _ _ h=>h) (Or.inr ⟨by rfl,rfl⟩) ?_ ?_
        rotate_left
        ·simp only [Act.put,List.setIfInBounds_toArray,List.set_cons_zero,List.set_cons_succ,i64_w,i32_w]
         rfl
        refine pure_ (i:=12) (N:=some 30) (v:=undef) (a':=?_) #[true,true,true,true,true,true,true,true,true,true,true,true,true,false,false,false,false,false,false] rfl rfl (any_of HT_.out (by kernel_rfl)) (fun _ _ _ h=>h) (Or.inr ⟨by rfl,rfl⟩) ?_ ?_
        rotate_left
        ·simp only [Act.put,List.setIfInBounds_toArray,List.set_cons_zero,List.set_cons_succ,i64_w,i32_w]
         rfl
        refine pure_ (i:=13) (N:=some 31) (v:=undef) (a':=?_) #[true,true,true,true,true,true,true,true,true,true,true,true,true,true,false,false,false,false,false] rfl rfl (any_of HT_.out (by kernel_rfl)) (fun _ _ _ h=>h) (Or.inr ⟨by rfl,rfl⟩) ?_ ?_
        rotate_left
        ·simp only [Act.put,List.setIfInBounds_toArray,List.set_cons_zero,List.set_cons_succ,i64_w,i32_w]
         rfl
        refine pure_ (i:=14) (N:=some 32) (v:=undef) (a':=?_) #[true,true,true,true,true,true,true,true,true,true,true,true,true,true,true,false,false,false,false] rfl rfl (any_of HT_.out (by kernel_rfl)) (fun _ _ _ h=>h) (Or.inr ⟨by rfl,rfl⟩) ?_ ?_
        rotate_left
        ·simp only [Act.put,List.setIfInBounds_toArray,List.set_cons_zero,List.set_cons_succ,i64_w,i32_w]
         rfl
        refine pure_ (i:=15) (N:=some 33) (v:=undef) (a':=?_) #[true,true,true,true,true,true,true,true,true,true,true,true,true,true,true,true,false,false,false] rfl rfl (any_of HT_.out (by kernel_rfl)) (fun _ _ _ h=>h) (Or.inr ⟨by rfl,rfl⟩) ?_ ?_
        rotate_left
        ·simp only [Act.put,List.setIfInBounds_toArray,List.set_cons_zero,List.set_cons_succ,i64_w,i32_w]
         rfl
        refine pure_ (i:=16) (N:=some 34) (v:=undef) (a':=?_) #[true,true,true,true,true,true,true,true,true,true,true,true,true,true,true,true,true,false,false] rfl rfl (any_of HT_.out (by kernel_rfl)) (fun _ _ _ h=>h) (Or.inr ⟨by rfl,rfl⟩) ?_ ?_
        rotate_left
        ·simp only [Act.put,List.setIfInBounds_toArray,List.set_cons_zero,List.set_cons_succ,i64_w,i32_w]
         rfl
        refine pure_ (i:=17) (N:=some 35) (v:=undef) (a':=?_) #[true,true,true,true,true,true,true,true,true,true,true,true,true,true,true,true,true,true,false] rfl rfl (any_of HT_.out (by kernel_rfl)) (fun _ _ _ h=>h) (Or.inr ⟨by rfl,rfl⟩) ?_ ?_
        rotate_left
        ·simp only [Act.put,List.setIfInBounds_toArray,List.set_cons_zero,List.set_cons_succ,i64_w,i32_w]
         rfl
        refine pure_ (i:=18) (N:=some 36) (v:=?_) (a':=?_) #[true,true,true,true,true,true,true,true,true,true,true,true,true,true,true,true,true,true,true] rfl rfl (any_of HT_.out (by kernel_rfl)) (fun _ _ _ h=>h) (Or.inl ⟨by rfl,?_⟩) ?_ ?_
        rotate_left
        ·intro w'
         go_simp
         with_reducible rfl
        rotate_left
        ·simp only [Act.put,List.setIfInBounds_toArray,List.set_cons_zero,List.set_cons_succ,i64_w,i32_w]
         rfl
        refine done_ (done_of HT_.out (by kernel_rfl)) ?_
        try go_wp2
        go_ret
        exact ⟨by first | rfl | (simp [eN,eS] <;> rfl) | (simp [*,eN,eS] <;> rfl),by repeat (first | (with_reducible first | exact HB.out | apply bA | apply bN | apply bD | refine bT ?_ GE189.out) | exact HB.out)⟩
      ·rw [if_neg c8] at H
       exact absurd H (by simp)
     ·rw [if_neg c7] at H
      have c7b0 : decide (x3_1 < (l0_3.length : Int)) = false:=decide_eq_false c7
      clear c7
      replace H:=Option.bind_eq_some_iff.mp H
      obtain ⟨t191,A260,H⟩:=H
      replace H : (if t191 = true then (some false) else ((r06_Class.f k1 a0_2).bind fun t192=>(if t192 = true then (if (l0_3.length : Int) ≤ 20 then (if a0_4.toList = ([] : List UInt8) then (some (a0_5.toList == ([] : List UInt8))) else (some false)) else (some false)) else (some false)))) = some r:=H
      have A26:=As.mk A260
      clear A260
      by_cases c27 : t191 = true
      ·subst c27
       have H1 : (some false) = some r:=by rw [if_pos rfl] at H;exact H
       clear H
       have H:=H1
       clear H1
       obtain rfl:=Option.some.inj H
       have hcz28_0 : wr.cell? ⟨gb189,0,none⟩ = some (.int .i64 a0_0):=(bC BK189.out 0).trans rfl
       have hcz28_1 : wr.cell? ⟨gb189,1,none⟩ = some (.string a0_1):=(bC BK189.out 1).trans rfl
       have hcz28_2 : wr.cell? ⟨gb189,2,none⟩ = some (.string a0_2):=(bC BK189.out 2).trans rfl
       have hcz28_3 : wr.cell? ⟨gb189,3,none⟩ = some (.slice A0_3 l0_3.length c0_3):=(bC BK189.out 3).trans rfl
       have hcz28_4 : wr.cell? ⟨gb189,4,none⟩ = some (.string a0_4):=(bC BK189.out 4).trans rfl
       have hcz28_5 : wr.cell? ⟨gb189,5,none⟩ = some (.string a0_5):=(bC BK189.out 5).trans rfl
       have hfz28_0:=bF BK189.out 0
       have hfz28_1:=bF BK189.out 1
       have hfz28_2:=bF BK189.out 2
       have hfz28_3:=bF BK189.out 3
       have hfz28_4:=bF BK189.out 4
       have hfz28_5:=bF BK189.out 5
       go_wp2_with (first | ((with_reducible refine gC (f:=69) rfl ?_);refine goesL_ (some 39) rfl rfl Tryz.func69 (by kernel_rfl) rfl #[.string a0_1] rfl (by (try simp only [List.map_toArray,List.map_cons,List.map_nil]);first | done | rfl | (simp only [List.length_drop,List.length_take];rfl)) ?_;(with_reducible refine (r06_Always.calls k1 a0_1 true _ A26.out).mono ?_);rintro e w29 ⟨rfl,hb⟩;refine ⟨_,rfl,?_⟩;have n0_:=As.mk (blk_below (g:=gb189) (o:=.cells #[.int .i64 a0_0,.string a0_1,.string a0_2,.slice A0_3 l0_3.length c0_3,.string a0_4,.string a0_5] 34 (0,0)) (by (with_reducible repeat (first | refine kN ?_ _ | refine kD ?_ | refine kA ?_ _));exact BK189.out) hb);have n1_:=As.mk (bS (by repeat (first | (with_reducible first | exact HB.out | apply bA | apply bN | apply bD | refine bT ?_ GE189.out) | exact HB.out)) hb);clear BK189;clear HB;have BK189:=n0_;have HB:=n1_;clear n0_ n1_;(try clear hb);(try clear hb2);(try clear hk);(try clear hi)))
       go_ret
       exact ⟨by first | rfl | (simp [eN,eS] <;> rfl) | (simp [*,eN,eS] <;> rfl),by repeat (first | (with_reducible first | exact HB.out | apply bA | apply bN | apply bD | refine bT ?_ GE189.out) | exact HB.out)⟩
      ·replace c27:=Bool.eq_false_iff.mpr c27
       subst c27
       have H1 : ((r06_Class.f k1 a0_2).bind fun t192=>(if t192 = true then (if (l0_3.length : Int) ≤ 20 then (if a0_4.toList = ([] : List UInt8) then (some (a0_5.toList == ([] : List UInt8))) else (some false)) else (some false)) else (some false))) = some r:=by rw [if_neg (show ¬ (false = true) by decide)] at H;exact H
       clear H
       have H:=H1
       clear H1
       replace H:=Option.bind_eq_some_iff.mp H
       obtain ⟨t192,A300,H⟩:=H
       replace H : (if t192 = true then (if (l0_3.length : Int) ≤ 20 then (if a0_4.toList = ([] : List UInt8) then (some (a0_5.toList == ([] : List UInt8))) else (some false)) else (some false)) else (some false)) = some r:=H
       have A30:=As.mk A300
       clear A300
       by_cases c31 : t192 = true
       ·subst c31
        have H1 : (if (l0_3.length : Int) ≤ 20 then (if a0_4.toList = ([] : List UInt8) then (some (a0_5.toList == ([] : List UInt8))) else (some false)) else (some false)) = some r:=by rw [if_pos rfl] at H;exact H
        clear H
        have H:=H1
        clear H1
        by_cases c32 : (l0_3.length : Int) ≤ 20
        ·rw [if_pos c32] at H
         have c32b0 : decide ((l0_3.length : Int) ≤ 20) = true:=decide_eq_true c32
         have c32b1 : decide (l0_3.length ≤ 20) = true:=decide_eq_true (by omega)
         clear c32
         by_cases c33 : a0_4.toList = ([] : List UInt8)
         ·rw [if_pos c33] at H
          have c33b0 : (a0_4.toList == ([] : List UInt8)) = true:=beq_iff_eq.mpr c33
          have c33b1 : (a0_4.toList != ([] : List UInt8)) = false:=bne_eq_false_iff_eq.mpr c33
          clear c33
          obtain rfl:=Option.some.inj H
          have hcz34_0 : wr.cell? ⟨gb189,0,none⟩ = some (.int .i64 a0_0):=(bC BK189.out 0).trans rfl
          have hcz34_1 : wr.cell? ⟨gb189,1,none⟩ = some (.string a0_1):=(bC BK189.out 1).trans rfl
          have hcz34_2 : wr.cell? ⟨gb189,2,none⟩ = some (.string a0_2):=(bC BK189.out 2).trans rfl
          have hcz34_3 : wr.cell? ⟨gb189,3,none⟩ = some (.slice A0_3 l0_3.length c0_3):=(bC BK189.out 3).trans rfl
          have hcz34_4 : wr.cell? ⟨gb189,4,none⟩ = some (.string a0_4):=(bC BK189.out 4).trans rfl
          have hcz34_5 : wr.cell? ⟨gb189,5,none⟩ = some (.string a0_5):=(bC BK189.out 5).trans rfl
          have hfz34_0:=bF BK189.out 0
          have hfz34_1:=bF BK189.out 1
          have hfz34_2:=bF BK189.out 2
          have hfz34_3:=bF BK189.out 3
          have hfz34_4:=bF BK189.out 4
          have hfz34_5:=bF BK189.out 5
          go_wp2_with (first | ((with_reducible refine gC (f:=69) rfl ?_);refine goesL_ (some 39) rfl rfl Tryz.func69 (by kernel_rfl) rfl #[.string a0_1] rfl (by (try simp only [List.map_toArray,List.map_cons,List.map_nil]);first | done | rfl | (simp only [List.length_drop,List.length_take];rfl)) ?_;(with_reducible refine (r06_Always.calls k1 a0_1 false _ A26.out).mono ?_);rintro e w35 ⟨rfl,hb⟩;refine ⟨_,rfl,?_⟩;have n0_:=As.mk (blk_below (g:=gb189) (o:=.cells #[.int .i64 a0_0,.string a0_1,.string a0_2,.slice A0_3 l0_3.length c0_3,.string a0_4,.string a0_5] 34 (0,0)) (by (with_reducible repeat (first | refine kN ?_ _ | refine kD ?_ | refine kA ?_ _));exact BK189.out) hb);have n1_:=As.mk (bS (by repeat (first | (with_reducible first | exact HB.out | apply bA | apply bN | apply bD | refine bT ?_ GE189.out) | exact HB.out)) hb);clear BK189;clear HB;have BK189:=n0_;have HB:=n1_;clear n0_ n1_;(try clear hb);(try clear hb2);(try clear hk);(try clear hi);have hcz36_0 : w35.cell? ⟨gb189,0,none⟩ = some (.int .i64 a0_0):=(bC BK189.out 0).trans rfl;have hcz36_1 : w35.cell? ⟨gb189,1,none⟩ = some (.string a0_1):=(bC BK189.out 1).trans rfl;have hcz36_2 : w35.cell? ⟨gb189,2,none⟩ = some (.string a0_2):=(bC BK189.out 2).trans rfl;have hcz36_3 : w35.cell? ⟨gb189,3,none⟩ = some (.slice A0_3 l0_3.length c0_3):=(bC BK189.out 3).trans rfl;have hcz36_4 : w35.cell? ⟨gb189,4,none⟩ = some (.string a0_4):=(bC BK189.out 4).trans rfl;have hcz36_5 : w35.cell? ⟨gb189,5,none⟩ = some (.string a0_5):=(bC BK189.out 5).trans rfl;have hfz36_0:=bF BK189.out 0;have hfz36_1:=bF BK189.out 1;have hfz36_2:=bF BK189.out 2;have hfz36_3:=bF BK189.out 3;have hfz36_4:=bF BK189.out 4;have hfz36_5:=bF BK189.out 5) | (go_at_call 66;(with_reducible refine (r06_Class.calls k1 a0_2 true _ A30.out).mono ?_);rintro e w' ⟨rfl,⟨nd,rfl⟩⟩))
          go_ret
          exact ⟨by first | rfl | (simp [eN,eS] <;> rfl) | (simp [*,eN,eS] <;> rfl),by repeat (first | (with_reducible first | exact HB.out | apply bA | apply bN | apply bD | refine bT ?_ GE189.out) | exact HB.out)⟩
         ·rw [if_neg c33] at H
          have c33b0 : (a0_4.toList == ([] : List UInt8)) = false:=beq_eq_false_iff_ne.mpr c33
          have c33b1 : (a0_4.toList != ([] : List UInt8)) = true:=bne_iff_ne.mpr c33
          obtain rfl:=Option.some.inj H
          have hcz37_0 : wr.cell? ⟨gb189,0,none⟩ = some (.int .i64 a0_0):=(bC BK189.out 0).trans rfl
          have hcz37_1 : wr.cell? ⟨gb189,1,none⟩ = some (.string a0_1):=(bC BK189.out 1).trans rfl
          have hcz37_2 : wr.cell? ⟨gb189,2,none⟩ = some (.string a0_2):=(bC BK189.out 2).trans rfl
          have hcz37_3 : wr.cell? ⟨gb189,3,none⟩ = some (.slice A0_3 l0_3.length c0_3):=(bC BK189.out 3).trans rfl
          have hcz37_4 : wr.cell? ⟨gb189,4,none⟩ = some (.string a0_4):=(bC BK189.out 4).trans rfl
          have hcz37_5 : wr.cell? ⟨gb189,5,none⟩ = some (.string a0_5):=(bC BK189.out 5).trans rfl
          have hfz37_0:=bF BK189.out 0
          have hfz37_1:=bF BK189.out 1
          have hfz37_2:=bF BK189.out 2
          have hfz37_3:=bF BK189.out 3
          have hfz37_4:=bF BK189.out 4
          have hfz37_5:=bF BK189.out 5
          go_wp2_with (first | ((with_reducible refine gC (f:=69) rfl ?_);refine goesL_ (some 39) rfl rfl Tryz.func69 (by kernel_rfl) rfl #[.string a0_1] rfl (by (try simp only [List.map_toArray,List.map_cons,List.map_nil]);first | done | rfl | (simp only [List.length_drop,List.length_take];rfl)) ?_;(with_reducible refine (r06_Always.calls k1 a0_1 false _ A26.out).mono ?_);rintro e w38 ⟨rfl,hb⟩;refine ⟨_,rfl,?_⟩;have n0_:=As.mk (blk_below (g:=gb189) (o:=.cells #[.int .i64 a0_0,.string a0_1,.string a0_2,.slice A0_3 l0_3.length c0_3,.string a0_4,.string a0_5] 34 (0,0)) (by (with_reducible repeat (first | refine kN ?_ _ | refine kD ?_ | refine kA ?_ _));exact BK189.out) hb);have n1_:=As.mk (bS (by repeat (first | (with_reducible first | exact HB.out | apply bA | apply bN | apply bD | refine bT ?_ GE189.out) | exact HB.out)) hb);clear BK189;clear HB;have BK189:=n0_;have HB:=n1_;clear n0_ n1_;(try clear hb);(try clear hb2);(try clear hk);(try clear hi);have hcz39_0 : w38.cell? ⟨gb189,0,none⟩ = some (.int .i64 a0_0):=(bC BK189.out 0).trans rfl;have hcz39_1 : w38.cell? ⟨gb189,1,none⟩ = some (.string a0_1):=(bC BK189.out 1).trans rfl;have hcz39_2 : w38.cell? ⟨gb189,2,none⟩ = some (.string a0_2):=(bC BK189.out 2).trans rfl;have hcz39_3 : w38.cell? ⟨gb189,3,none⟩ = some (.slice A0_3 l0_3.length c0_3):=(bC BK189.out 3).trans rfl;have hcz39_4 : w38.cell? ⟨gb189,4,none⟩ = some (.string a0_4):=(bC BK189.out 4).trans rfl;have hcz39_5 : w38.cell? ⟨gb189,5,none⟩ = some (.string a0_5):=(bC BK189.out 5).trans rfl;have hfz39_0:=bF BK189.out 0;have hfz39_1:=bF BK189.out 1;have hfz39_2:=bF BK189.out 2;have hfz39_3:=bF BK189.out 3;have hfz39_4:=bF BK189.out 4;have hfz39_5:=bF BK189.out 5) | (go_at_call 66;(with_reducible refine (r06_Class.calls k1 a0_2 true _ A30.out).mono ?_);rintro e w' ⟨rfl,⟨nd,rfl⟩⟩))
          go_ret
          exact ⟨by first | rfl | (simp [eN,eS] <;> rfl) | (simp [*,eN,eS] <;> rfl),by repeat (first | (with_reducible first | exact HB.out | apply bA | apply bN | apply bD | refine bT ?_ GE189.out) | exact HB.out)⟩
        ·rw [if_neg c32] at H
         have c32b0 : decide ((l0_3.length : Int) ≤ 20) = false:=decide_eq_false c32
         have c32b1 : decide (l0_3.length ≤ 20) = false:=decide_eq_false (by omega)
         clear c32
         obtain rfl:=Option.some.inj H
         have hcz40_0 : wr.cell? ⟨gb189,0,none⟩ = some (.int .i64 a0_0):=(bC BK189.out 0).trans rfl
         have hcz40_1 : wr.cell? ⟨gb189,1,none⟩ = some (.string a0_1):=(bC BK189.out 1).trans rfl
         have hcz40_2 : wr.cell? ⟨gb189,2,none⟩ = some (.string a0_2):=(bC BK189.out 2).trans rfl
         have hcz40_3 : wr.cell? ⟨gb189,3,none⟩ = some (.slice A0_3 l0_3.length c0_3):=(bC BK189.out 3).trans rfl
         have hcz40_4 : wr.cell? ⟨gb189,4,none⟩ = some (.string a0_4):=(bC BK189.out 4).trans rfl
         have hcz40_5 : wr.cell? ⟨gb189,5,none⟩ = some (.string a0_5):=(bC BK189.out 5).trans rfl
         have hfz40_0:=bF BK189.out 0
         have hfz40_1:=bF BK189.out 1
         have hfz40_2:=bF BK189.out 2
         have hfz40_3:=bF BK189.out 3
         have hfz40_4:=bF BK189.out 4
         have hfz40_5:=bF BK189.out 5
         go_wp2_with (first | ((with_reducible refine gC (f:=69) rfl ?_);refine goesL_ (some 39) rfl rfl Tryz.func69 (by kernel_rfl) rfl #[.string a0_1] rfl (by (try simp only [List.map_toArray,List.map_cons,List.map_nil]);first | done | rfl | (simp only [List.length_drop,List.length_take];rfl)) ?_;(with_reducible refine (r06_Always.calls k1 a0_1 false _ A26.out).mono ?_);rintro e w41 ⟨rfl,hb⟩;refine ⟨_,rfl,?_⟩;have n0_:=As.mk (blk_below (g:=gb189) (o:=.cells #[.int .i64 a0_0,.string a0_1,.string a0_2,.slice A0_3 l0_3.length c0_3,.string a0_4,.string a0_5] 34 (0,0)) (by (with_reducible repeat (first | refine kN ?_ _ | refine kD ?_ | refine kA ?_ _));exact BK189.out) hb);have n1_:=As.mk (bS (by repeat (first | (with_reducible first | exact HB.out | apply bA | apply bN | apply bD | refine bT ?_ GE189.out) | exact HB.out)) hb);clear BK189;clear HB;have BK189:=n0_;have HB:=n1_;clear n0_ n1_;(try clear hb);(try clear hb2);(try clear hk);(try clear hi);have hcz42_0 : w41.cell? ⟨gb189,0,none⟩ = some (.int .i64 a0_0):=(bC BK189.out 0).trans rfl;have hcz42_1 : w41.cell? ⟨gb189,1,none⟩ = some (.string a0_1):=(bC BK189.out 1).trans rfl;have hcz42_2 : w41.cell? ⟨gb189,2,none⟩ = some (.string a0_2):=(bC BK189.out 2).trans rfl;have hcz42_3 : w41.cell? ⟨gb189,3,none⟩ = some (.slice A0_3 l0_3.length c0_3):=(bC BK189.out 3).trans rfl;have hcz42_4 : w41.cell? ⟨gb189,4,none⟩ = some (.string a0_4):=(bC BK189.out 4).trans rfl;have hcz42_5 : w41.cell? ⟨gb189,5,none⟩ = some (.string a0_5):=(bC BK189.out 5).trans rfl;have hfz42_0:=bF BK189.out 0;have hfz42_1:=bF BK189.out 1;have hfz42_2:=bF BK189.out 2;have hfz42_3:=bF BK189.out 3;have hfz42_4:=bF BK189.out 4;have hfz42_5:=bF BK189.out 5) | (go_at_call 66;(with_reducible refine (r06_Class.calls k1 a0_2 true _ A30.out).mono ?_);rintro e w' ⟨rfl,⟨nd,rfl⟩⟩))
         go_ret
         exact ⟨by first | rfl | (simp [eN,eS] <;> rfl) | (simp [*,eN,eS] <;> rfl),by repeat (first | (with_reducible first | exact HB.out | apply bA | apply bN | apply bD | refine bT ?_ GE189.out) | exact HB.out)⟩
       ·replace c31:=Bool.eq_false_iff.mpr c31
        subst c31
        have H1 : (some false) = some r:=by rw [if_neg (show ¬ (false = true) by decide)] at H;exact H
        clear H
        have H:=H1
        clear H1
        obtain rfl:=Option.some.inj H
        have hcz43_0 : wr.cell? ⟨gb189,0,none⟩ = some (.int .i64 a0_0):=(bC BK189.out 0).trans rfl
        have hcz43_1 : wr.cell? ⟨gb189,1,none⟩ = some (.string a0_1):=(bC BK189.out 1).trans rfl
        have hcz43_2 : wr.cell? ⟨gb189,2,none⟩ = some (.string a0_2):=(bC BK189.out 2).trans rfl
        have hcz43_3 : wr.cell? ⟨gb189,3,none⟩ = some (.slice A0_3 l0_3.length c0_3):=(bC BK189.out 3).trans rfl
        have hcz43_4 : wr.cell? ⟨gb189,4,none⟩ = some (.string a0_4):=(bC BK189.out 4).trans rfl
        have hcz43_5 : wr.cell? ⟨gb189,5,none⟩ = some (.string a0_5):=(bC BK189.out 5).trans rfl
        have hfz43_0:=bF BK189.out 0
        have hfz43_1:=bF BK189.out 1
        have hfz43_2:=bF BK189.out 2
        have hfz43_3:=bF BK189.out 3
        have hfz43_4:=bF BK189.out 4
        have hfz43_5:=bF BK189.out 5
        go_wp2_with (first | ((with_reducible refine gC (f:=69) rfl ?_);refine goesL_ (some 39) rfl rfl Tryz.func69 (by kernel_rfl) rfl #[.string a0_1] rfl (by (try simp only [List.map_toArray,List.map_cons,List.map_nil]);first | done | rfl | (simp only [List.length_drop,List.length_take];rfl)) ?_;(with_reducible refine (r06_Always.calls k1 a0_1 false _ A26.out).mono ?_);rintro e w44 ⟨rfl,hb⟩;refine ⟨_,rfl,?_⟩;have n0_:=As.mk (blk_below (g:=gb189) (o:=.cells #[.int .i64 a0_0,.string a0_1,.string a0_2,.slice A0_3 l0_3.length c0_3,.string a0_4,.string a0_5] 34 (0,0)) (by (with_reducible repeat (first | refine kN ?_ _ | refine kD ?_ | refine kA ?_ _));exact BK189.out) hb);have n1_:=As.mk (bS (by repeat (first | (with_reducible first | exact HB.out | apply bA | apply bN | apply bD | refine bT ?_ GE189.out) | exact HB.out)) hb);clear BK189;clear HB;have BK189:=n0_;have HB:=n1_;clear n0_ n1_;(try clear hb);(try clear hb2);(try clear hk);(try clear hi);have hcz45_0 : w44.cell? ⟨gb189,0,none⟩ = some (.int .i64 a0_0):=(bC BK189.out 0).trans rfl;have hcz45_1 : w44.cell? ⟨gb189,1,none⟩ = some (.string a0_1):=(bC BK189.out 1).trans rfl;have hcz45_2 : w44.cell? ⟨gb189,2,none⟩ = some (.string a0_2):=(bC BK189.out 2).trans rfl;have hcz45_3 : w44.cell? ⟨gb189,3,none⟩ = some (.slice A0_3 l0_3.length c0_3):=(bC BK189.out 3).trans rfl;have hcz45_4 : w44.cell? ⟨gb189,4,none⟩ = some (.string a0_4):=(bC BK189.out 4).trans rfl;have hcz45_5 : w44.cell? ⟨gb189,5,none⟩ = some (.string a0_5):=(bC BK189.out 5).trans rfl;have hfz45_0:=bF BK189.out 0;have hfz45_1:=bF BK189.out 1;have hfz45_2:=bF BK189.out 2;have hfz45_3:=bF BK189.out 3;have hfz45_4:=bF BK189.out 4;have hfz45_5:=bF BK189.out 5) | (go_at_call 66;(with_reducible refine (r06_Class.calls k1 a0_2 false _ A30.out).mono ?_);rintro e w' ⟨rfl,⟨nd,rfl⟩⟩))
        go_ret
        exact ⟨by first | rfl | (simp [eN,eS] <;> rfl) | (simp [*,eN,eS] <;> rfl),by repeat (first | (with_reducible first | exact HB.out | apply bA | apply bN | apply bD | refine bT ?_ GE189.out) | exact HB.out)⟩
  ·rw [if_neg c4] at H
   have c4b0 : (a0_0 == 1) = false:=beq_eq_false_iff_ne.mpr c4
   have c4b1 : (a0_0 != 1) = true:=bne_iff_ne.mpr c4
   by_cases c46 : a0_0 = 2
   ·rw [if_pos c46] at H
    have c46b0 : (a0_0 == 2) = true:=beq_iff_eq.mpr c46
    have c46b1 : (a0_0 != 2) = false:=bne_eq_false_iff_eq.mpr c46
    clear c46
    replace H:=Option.bind_eq_some_iff.mp H
    obtain ⟨t198,A470,H⟩:=H
    replace H : (if t198 > 0 then (if (a0_5.size : Int) ≤ 4000 then (if a0_2.toList = ([] : List UInt8) then (some ((l0_3.length : Int) == 0)) else (some false)) else (some false)) else (some false)) = some r:=H
    have A47:=As.mk A470
    clear A470
    by_cases c48 : t198 > 0
    ·rw [if_pos c48] at H
     have c48b0 : decide (0 < t198) = true:=decide_eq_true c48
     clear c48
     by_cases c49 : (a0_5.size : Int) ≤ 4000
     ·rw [if_pos c49] at H
      have c49b0 : decide ((a0_5.size : Int) ≤ 4000) = true:=decide_eq_true c49
      have c49b1 : decide (a0_5.size ≤ 4000) = true:=decide_eq_true (by omega)
      clear c49
      by_cases c50 : a0_2.toList = ([] : List UInt8)
      ·rw [if_pos c50] at H
       have c50b0 : (a0_2.toList == ([] : List UInt8)) = true:=beq_iff_eq.mpr c50
       have c50b1 : (a0_2.toList != ([] : List UInt8)) = false:=bne_eq_false_iff_eq.mpr c50
       clear c50
       obtain rfl:=Option.some.inj H
       go_enter Tryz.func24,Tryz.ntmps24
       go_wp2_with (first | ((with_reducible refine gate_dst (N:=1) rfl ?_);(try (refine gate_guard (by rfl) ?_;dsimp only));refine box_event ?hg (N:=1) ?hd (cs:=#[.int .i64 a0_0,.string a0_1,.string a0_2,.slice A0_3 l0_3.length c0_3,.string a0_4,.string a0_5]) (t:=34) ?hr ?_;(case hd=>rfl);(case hg=>rfl);(case hr=>first | (go_simp;done) | (go_simp;rfl));intro gb189 hg w51 hbox hb;have n0_:=As.mk (bS (by repeat (first | (with_reducible first | exact HB.out | apply bA | apply bN | apply bD) | exact HB.out)) hb);have n1_:=As.mk (hbox);have n2_:=As.mk ((by rw [hg];exact (bZ (by repeat (first | (with_reducible first | exact HB.out | apply bA | apply bN | apply bD) | exact HB.out))) : w.heap.size ≤ gb189));have n3_:=As.mk ((by rw [hg];exact (bZ (by repeat (first | (with_reducible first | exact HB.out | apply bA | apply bN | apply bD) | exact HB.out))) : w.heap.size ≤ gb189));clear HB;have HB:=n0_;have BK189:=n1_;have GW189:=n2_;have GE189:=n3_;clear n0_ n1_ n2_ n3_;clear hb hbox hg;have hcz52_0 : w51.cell? ⟨gb189,0,none⟩ = some (.int .i64 a0_0):=(bC BK189.out 0).trans rfl;have hcz52_1 : w51.cell? ⟨gb189,1,none⟩ = some (.string a0_1):=(bC BK189.out 1).trans rfl;have hcz52_2 : w51.cell? ⟨gb189,2,none⟩ = some (.string a0_2):=(bC BK189.out 2).trans rfl;have hcz52_3 : w51.cell? ⟨gb189,3,none⟩ = some (.slice A0_3 l0_3.length c0_3):=(bC BK189.out 3).trans rfl;have hcz52_4 : w51.cell? ⟨gb189,4,none⟩ = some (.string a0_4):=(bC BK189.out 4).trans rfl;have hcz52_5 : w51.cell? ⟨gb189,5,none⟩ = some (.string a0_5):=(bC BK189.out 5).trans rfl;have hfz52_0:=bF BK189.out 0;have hfz52_1:=bF BK189.out 1;have hfz52_2:=bF BK189.out 2;have hfz52_3:=bF BK189.out 3;have hfz52_4:=bF BK189.out 4;have hfz52_5:=bF BK189.out 5) | ((with_reducible refine gC (f:=66) rfl ?_);refine goesL_ (some 6) rfl rfl Tryz.func66 (by kernel_rfl) rfl #[.string a0_1] rfl (by (try simp only [List.map_toArray,List.map_cons,List.map_nil]);first | done | rfl | (simp only [List.length_drop,List.length_take];rfl)) ?_;(with_reducible refine (r06_Class.calls k a0_1 true _ A2.out).mono ?_);rintro e w' ⟨rfl,⟨nd,rfl⟩⟩;refine ⟨_,rfl,?_⟩) | (go_at_call 70;(with_reducible refine (r06_Kind.calls k a0_4 t198 _ A47.out).mono ?_);rintro e w53 ⟨rfl,hb⟩;have n0_:=As.mk (blk_below (g:=gb189) (o:=.cells #[.int .i64 a0_0,.string a0_1,.string a0_2,.slice A0_3 l0_3.length c0_3,.string a0_4,.string a0_5] 34 (0,0)) (by (with_reducible repeat (first | refine kN ?_ _ | refine kD ?_ | refine kA ?_ _));exact BK189.out) hb);have n1_:=As.mk (bS (by repeat (first | (with_reducible first | exact HB.out | apply bA | apply bN | apply bD | refine bT ?_ GE189.out) | exact HB.out)) hb);clear BK189;clear HB;have BK189:=n0_;have HB:=n1_;clear n0_ n1_;(try clear hb);(try clear hb2);(try clear hk);(try clear hi);have hcz54_0 : w53.cell? ⟨gb189,0,none⟩ = some (.int .i64 a0_0):=(bC BK189.out 0).trans rfl;have hcz54_1 : w53.cell? ⟨gb189,1,none⟩ = some (.string a0_1):=(bC BK189.out 1).trans rfl;have hcz54_2 : w53.cell? ⟨gb189,2,none⟩ = some (.string a0_2):=(bC BK189.out 2).trans rfl;have hcz54_3 : w53.cell? ⟨gb189,3,none⟩ = some (.slice A0_3 l0_3.length c0_3):=(bC BK189.out 3).trans rfl;have hcz54_4 : w53.cell? ⟨gb189,4,none⟩ = some (.string a0_4):=(bC BK189.out 4).trans rfl;have hcz54_5 : w53.cell? ⟨gb189,5,none⟩ = some (.string a0_5):=(bC BK189.out 5).trans rfl;have hfz54_0:=bF BK189.out 0;have hfz54_1:=bF BK189.out 1;have hfz54_2:=bF BK189.out 2;have hfz54_3:=bF BK189.out 3;have hfz54_4:=bF BK189.out 4;have hfz54_5:=bF BK189.out 5))
       go_ret
       exact ⟨by first | rfl | (simp [eN,eS] <;> rfl) | (simp [*,eN,eS] <;> rfl),by repeat (first | (with_reducible first | exact HB.out | apply bA | apply bN | apply bD | refine bT ?_ GE189.out) | exact HB.out)⟩
      ·rw [if_neg c50] at H
       have c50b0 : (a0_2.toList == ([] : List UInt8)) = false:=beq_eq_false_iff_ne.mpr c50
       have c50b1 : (a0_2.toList != ([] : List UInt8)) = true:=bne_iff_ne.mpr c50
       obtain rfl:=Option.some.inj H
       go_enter Tryz.func24,Tryz.ntmps24
       go_wp2_with (first | ((with_reducible refine gate_dst (N:=1) rfl ?_);(try (refine gate_guard (by rfl) ?_;dsimp only));refine box_event ?hg (N:=1) ?hd (cs:=#[.int .i64 a0_0,.string a0_1,.string a0_2,.slice A0_3 l0_3.length c0_3,.string a0_4,.string a0_5]) (t:=34) ?hr ?_;(case hd=>rfl);(case hg=>rfl);(case hr=>first | (go_simp;done) | (go_simp;rfl));intro gb189 hg w55 hbox hb;have n0_:=As.mk (bS (by repeat (first | (with_reducible first | exact HB.out | apply bA | apply bN | apply bD) | exact HB.out)) hb);have n1_:=As.mk (hbox);have n2_:=As.mk ((by rw [hg];exact (bZ (by repeat (first | (with_reducible first | exact HB.out | apply bA | apply bN | apply bD) | exact HB.out))) : w.heap.size ≤ gb189));have n3_:=As.mk ((by rw [hg];exact (bZ (by repeat (first | (with_reducible first | exact HB.out | apply bA | apply bN | apply bD) | exact HB.out))) : w.heap.size ≤ gb189));clear HB;have HB:=n0_;have BK189:=n1_;have GW189:=n2_;have GE189:=n3_;clear n0_ n1_ n2_ n3_;clear hb hbox hg;have hcz56_0 : w55.cell? ⟨gb189,0,none⟩ = some (.int .i64 a0_0):=(bC BK189.out 0).trans rfl;have hcz56_1 : w55.cell? ⟨gb189,1,none⟩ = some (.string a0_1):=(bC BK189.out 1).trans rfl;have hcz56_2 : w55.cell? ⟨gb189,2,none⟩ = some (.string a0_2):=(bC BK189.out 2).trans rfl;have hcz56_3 : w55.cell? ⟨gb189,3,none⟩ = some (.slice A0_3 l0_3.length c0_3):=(bC BK189.out 3).trans rfl;have hcz56_4 : w55.cell? ⟨gb189,4,none⟩ = some (.string a0_4):=(bC BK189.out 4).trans rfl;have hcz56_5 : w55.cell? ⟨gb189,5,none⟩ = some (.string a0_5):=(bC BK189.out 5).trans rfl;have hfz56_0:=bF BK189.out 0;have hfz56_1:=bF BK189.out 1;have hfz56_2:=bF BK189.out 2;have hfz56_3:=bF BK189.out 3;have hfz56_4:=bF BK189.out 4;have hfz56_5:=bF BK189.out 5) | ((with_reducible refine gC (f:=66) rfl ?_);refine goesL_ (some 6) rfl rfl Tryz.func66 (by kernel_rfl) rfl #[.string a0_1] rfl (by (try simp only [List.map_toArray,List.map_cons,List.map_nil]);first | done | rfl | (simp only [List.length_drop,List.length_take];rfl)) ?_;(with_reducible refine (r06_Class.calls k a0_1 true _ A2.out).mono ?_);rintro e w' ⟨rfl,⟨nd,rfl⟩⟩;refine ⟨_,rfl,?_⟩) | (go_at_call 70;(with_reducible refine (r06_Kind.calls k a0_4 t198 _ A47.out).mono ?_);rintro e w57 ⟨rfl,hb⟩;have n0_:=As.mk (blk_below (g:=gb189) (o:=.cells #[.int .i64 a0_0,.string a0_1,.string a0_2,.slice A0_3 l0_3.length c0_3,.string a0_4,.string a0_5] 34 (0,0)) (by (with_reducible repeat (first | refine kN ?_ _ | refine kD ?_ | refine kA ?_ _));exact BK189.out) hb);have n1_:=As.mk (bS (by repeat (first | (with_reducible first | exact HB.out | apply bA | apply bN | apply bD | refine bT ?_ GE189.out) | exact HB.out)) hb);clear BK189;clear HB;have BK189:=n0_;have HB:=n1_;clear n0_ n1_;(try clear hb);(try clear hb2);(try clear hk);(try clear hi);have hcz58_0 : w57.cell? ⟨gb189,0,none⟩ = some (.int .i64 a0_0):=(bC BK189.out 0).trans rfl;have hcz58_1 : w57.cell? ⟨gb189,1,none⟩ = some (.string a0_1):=(bC BK189.out 1).trans rfl;have hcz58_2 : w57.cell? ⟨gb189,2,none⟩ = some (.string a0_2):=(bC BK189.out 2).trans rfl;have hcz58_3 : w57.cell? ⟨gb189,3,none⟩ = some (.slice A0_3 l0_3.length c0_3):=(bC BK189.out 3).trans rfl;have hcz58_4 : w57.cell? ⟨gb189,4,none⟩ = some (.string a0_4):=(bC BK189.out 4).trans rfl;have hcz58_5 : w57.cell? ⟨gb189,5,none⟩ = some (.string a0_5):=(bC BK189.out 5).trans rfl;have hfz58_0:=bF BK189.out 0;have hfz58_1:=bF BK189.out 1;have hfz58_2:=bF BK189.out 2;have hfz58_3:=bF BK189.out 3;have hfz58_4:=bF BK189.out 4;have hfz58_5:=bF BK189.out 5))
       go_ret
       exact ⟨by first | rfl | (simp [eN,eS] <;> rfl) | (simp [*,eN,eS] <;> rfl),by repeat (first | (with_reducible first | exact HB.out | apply bA | apply bN | apply bD | refine bT ?_ GE189.out) | exact HB.out)⟩
     ·rw [if_neg c49] at H
      have c49b0 : decide ((a0_5.size : Int) ≤ 4000) = false:=decide_eq_false c49
      have c49b1 : decide (a0_5.size ≤ 4000) = false:=decide_eq_false (by omega)
      clear c49
      obtain rfl:=Option.some.inj H
      go_enter Tryz.func24,Tryz.ntmps24
      go_wp2_with (first | ((with_reducible refine gate_dst (N:=1) rfl ?_);(try (refine gate_guard (by rfl) ?_;dsimp only));refine box_event ?hg (N:=1) ?hd (cs:=#[.int .i64 a0_0,.string a0_1,.string a0_2,.slice A0_3 l0_3.length c0_3,.string a0_4,.string a0_5]) (t:=34) ?hr ?_;(case hd=>rfl);(case hg=>rfl);(case hr=>first | (go_simp;done) | (go_simp;rfl));intro gb189 hg w59 hbox hb;have n0_:=As.mk (bS (by repeat (first | (with_reducible first | exact HB.out | apply bA | apply bN | apply bD) | exact HB.out)) hb);have n1_:=As.mk (hbox);have n2_:=As.mk ((by rw [hg];exact (bZ (by repeat (first | (with_reducible first | exact HB.out | apply bA | apply bN | apply bD) | exact HB.out))) : w.heap.size ≤ gb189));have n3_:=As.mk ((by rw [hg];exact (bZ (by repeat (first | (with_reducible first | exact HB.out | apply bA | apply bN | apply bD) | exact HB.out))) : w.heap.size ≤ gb189));clear HB;have HB:=n0_;have BK189:=n1_;have GW189:=n2_;have GE189:=n3_;clear n0_ n1_ n2_ n3_;clear hb hbox hg;have hcz60_0 : w59.cell? ⟨gb189,0,none⟩ = some (.int .i64 a0_0):=(bC BK189.out 0).trans rfl;have hcz60_1 : w59.cell? ⟨gb189,1,none⟩ = some (.string a0_1):=(bC BK189.out 1).trans rfl;have hcz60_2 : w59.cell? ⟨gb189,2,none⟩ = some (.string a0_2):=(bC BK189.out 2).trans rfl;have hcz60_3 : w59.cell? ⟨gb189,3,none⟩ = some (.slice A0_3 l0_3.length c0_3):=(bC BK189.out 3).trans rfl;have hcz60_4 : w59.cell? ⟨gb189,4,none⟩ = some (.string a0_4):=(bC BK189.out 4).trans rfl;have hcz60_5 : w59.cell? ⟨gb189,5,none⟩ = some (.string a0_5):=(bC BK189.out 5).trans rfl;have hfz60_0:=bF BK189.out 0;have hfz60_1:=bF BK189.out 1;have hfz60_2:=bF BK189.out 2;have hfz60_3:=bF BK189.out 3;have hfz60_4:=bF BK189.out 4;have hfz60_5:=bF BK189.out 5) | ((with_reducible refine gC (f:=66) rfl ?_);refine goesL_ (some 6) rfl rfl Tryz.func66 (by kernel_rfl) rfl #[.string a0_1] rfl (by (try simp only [List.map_toArray,List.map_cons,List.map_nil]);first | done | rfl | (simp only [List.length_drop,List.length_take];rfl)) ?_;(with_reducible refine (r06_Class.calls k a0_1 true _ A2.out).mono ?_);rintro e w' ⟨rfl,⟨nd,rfl⟩⟩;refine ⟨_,rfl,?_⟩) | (go_at_call 70;(with_reducible refine (r06_Kind.calls k a0_4 t198 _ A47.out).mono ?_);rintro e w61 ⟨rfl,hb⟩;have n0_:=As.mk (blk_below (g:=gb189) (o:=.cells #[.int .i64 a0_0,.string a0_1,.string a0_2,.slice A0_3 l0_3.length c0_3,.string a0_4,.string a0_5] 34 (0,0)) (by (with_reducible repeat (first | refine kN ?_ _ | refine kD ?_ | refine kA ?_ _));exact BK189.out) hb);have n1_:=As.mk (bS (by repeat (first | (with_reducible first | exact HB.out | apply bA | apply bN | apply bD | refine bT ?_ GE189.out) | exact HB.out)) hb);clear BK189;clear HB;have BK189:=n0_;have HB:=n1_;clear n0_ n1_;(try clear hb);(try clear hb2);(try clear hk);(try clear hi);have hcz62_0 : w61.cell? ⟨gb189,0,none⟩ = some (.int .i64 a0_0):=(bC BK189.out 0).trans rfl;have hcz62_1 : w61.cell? ⟨gb189,1,none⟩ = some (.string a0_1):=(bC BK189.out 1).trans rfl;have hcz62_2 : w61.cell? ⟨gb189,2,none⟩ = some (.string a0_2):=(bC BK189.out 2).trans rfl;have hcz62_3 : w61.cell? ⟨gb189,3,none⟩ = some (.slice A0_3 l0_3.length c0_3):=(bC BK189.out 3).trans rfl;have hcz62_4 : w61.cell? ⟨gb189,4,none⟩ = some (.string a0_4):=(bC BK189.out 4).trans rfl;have hcz62_5 : w61.cell? ⟨gb189,5,none⟩ = some (.string a0_5):=(bC BK189.out 5).trans rfl;have hfz62_0:=bF BK189.out 0;have hfz62_1:=bF BK189.out 1;have hfz62_2:=bF BK189.out 2;have hfz62_3:=bF BK189.out 3;have hfz62_4:=bF BK189.out 4;have hfz62_5:=bF BK189.out 5))
      go_ret
      exact ⟨by first | rfl | (simp [eN,eS] <;> rfl) | (simp [*,eN,eS] <;> rfl),by repeat (first | (with_reducible first | exact HB.out | apply bA | apply bN | apply bD | refine bT ?_ GE189.out) | exact HB.out)⟩
    ·rw [if_neg c48] at H
     have c48b0 : decide (0 < t198) = false:=decide_eq_false c48
     clear c48
     obtain rfl:=Option.some.inj H
     go_enter Tryz.func24,Tryz.ntmps24
     go_wp2_with (first | ((with_reducible refine gate_dst (N:=1) rfl ?_);(try (refine gate_guard (by rfl) ?_;dsimp only));refine box_event ?hg (N:=1) ?hd (cs:=#[.int .i64 a0_0,.string a0_1,.string a0_2,.slice A0_3 l0_3.length c0_3,.string a0_4,.string a0_5]) (t:=34) ?hr ?_;(case hd=>rfl);(case hg=>rfl);(case hr=>first | (go_simp;done) | (go_simp;rfl));intro gb189 hg w63 hbox hb;have n0_:=As.mk (bS (by repeat (first | (with_reducible first | exact HB.out | apply bA | apply bN | apply bD) | exact HB.out)) hb);have n1_:=As.mk (hbox);have n2_:=As.mk ((by rw [hg];exact (bZ (by repeat (first | (with_reducible first | exact HB.out | apply bA | apply bN | apply bD) | exact HB.out))) : w.heap.size ≤ gb189));have n3_:=As.mk ((by rw [hg];exact (bZ (by repeat (first | (with_reducible first | exact HB.out | apply bA | apply bN | apply bD) | exact HB.out))) : w.heap.size ≤ gb189));clear HB;have HB:=n0_;have BK189:=n1_;have GW189:=n2_;have GE189:=n3_;clear n0_ n1_ n2_ n3_;clear hb hbox hg;have hcz64_0 : w63.cell? ⟨gb189,0,none⟩ = some (.int .i64 a0_0):=(bC BK189.out 0).trans rfl;have hcz64_1 : w63.cell? ⟨gb189,1,none⟩ = some (.string a0_1):=(bC BK189.out 1).trans rfl;have hcz64_2 : w63.cell? ⟨gb189,2,none⟩ = some (.string a0_2):=(bC BK189.out 2).trans rfl;have hcz64_3 : w63.cell? ⟨gb189,3,none⟩ = some (.slice A0_3 l0_3.length c0_3):=(bC BK189.out 3).trans rfl;have hcz64_4 : w63.cell? ⟨gb189,4,none⟩ = some (.string a0_4):=(bC BK189.out 4).trans rfl;have hcz64_5 : w63.cell? ⟨gb189,5,none⟩ = some (.string a0_5):=(bC BK189.out 5).trans rfl;have hfz64_0:=bF BK189.out 0;have hfz64_1:=bF BK189.out 1;have hfz64_2:=bF BK189.out 2;have hfz64_3:=bF BK189.out 3;have hfz64_4:=bF BK189.out 4;have hfz64_5:=bF BK189.out 5) | ((with_reducible refine gC (f:=66) rfl ?_);refine goesL_ (some 6) rfl rfl Tryz.func66 (by kernel_rfl) rfl #[.string a0_1] rfl (by (try simp only [List.map_toArray,List.map_cons,List.map_nil]);first | done | rfl | (simp only [List.length_drop,List.length_take];rfl)) ?_;(with_reducible refine (r06_Class.calls k a0_1 true _ A2.out).mono ?_);rintro e w' ⟨rfl,⟨nd,rfl⟩⟩;refine ⟨_,rfl,?_⟩) | (go_at_call 70;(with_reducible refine (r06_Kind.calls k a0_4 t198 _ A47.out).mono ?_);rintro e w65 ⟨rfl,hb⟩;have n0_:=As.mk (blk_below (g:=gb189) (o:=.cells #[.int .i64 a0_0,.string a0_1,.string a0_2,.slice A0_3 l0_3.length c0_3,.string a0_4,.string a0_5] 34 (0,0)) (by (with_reducible repeat (first | refine kN ?_ _ | refine kD ?_ | refine kA ?_ _));exact BK189.out) hb);have n1_:=As.mk (bS (by repeat (first | (with_reducible first | exact HB.out | apply bA | apply bN | apply bD | refine bT ?_ GE189.out) | exact HB.out)) hb);clear BK189;clear HB;have BK189:=n0_;have HB:=n1_;clear n0_ n1_;(try clear hb);(try clear hb2);(try clear hk);(try clear hi)))
     go_ret
     exact ⟨by first | rfl | (simp [eN,eS] <;> rfl) | (simp [*,eN,eS] <;> rfl),by repeat (first | (with_reducible first | exact HB.out | apply bA | apply bN | apply bD | refine bT ?_ GE189.out) | exact HB.out)⟩
   ·rw [if_neg c46] at H
    have c46b0 : (a0_0 == 2) = false:=beq_eq_false_iff_ne.mpr c46
    have c46b1 : (a0_0 != 2) = true:=bne_iff_ne.mpr c46
    obtain rfl:=Option.some.inj H
    go_enter Tryz.func24,Tryz.ntmps24
    go_wp2_with (first | ((with_reducible refine gate_dst (N:=1) rfl ?_);(try (refine gate_guard (by rfl) ?_;dsimp only));refine box_event ?hg (N:=1) ?hd (cs:=#[.int .i64 a0_0,.string a0_1,.string a0_2,.slice A0_3 l0_3.length c0_3,.string a0_4,.string a0_5]) (t:=34) ?hr ?_;(case hd=>rfl);(case hg=>rfl);(case hr=>first | (go_simp;done) | (go_simp;rfl));intro gb189 hg w66 hbox hb;have n0_:=As.mk (bS (by repeat (first | (with_reducible first | exact HB.out | apply bA | apply bN | apply bD) | exact HB.out)) hb);have n1_:=As.mk (hbox);have n2_:=As.mk ((by rw [hg];exact (bZ (by repeat (first | (with_reducible first | exact HB.out | apply bA | apply bN | apply bD) | exact HB.out))) : w.heap.size ≤ gb189));have n3_:=As.mk ((by rw [hg];exact (bZ (by repeat (first | (with_reducible first | exact HB.out | apply bA | apply bN | apply bD) | exact HB.out))) : w.heap.size ≤ gb189));clear HB;have HB:=n0_;have BK189:=n1_;have GW189:=n2_;have GE189:=n3_;clear n0_ n1_ n2_ n3_;clear hb hbox hg;have hcz67_0 : w66.cell? ⟨gb189,0,none⟩ = some (.int .i64 a0_0):=(bC BK189.out 0).trans rfl;have hcz67_1 : w66.cell? ⟨gb189,1,none⟩ = some (.string a0_1):=(bC BK189.out 1).trans rfl;have hcz67_2 : w66.cell? ⟨gb189,2,none⟩ = some (.string a0_2):=(bC BK189.out 2).trans rfl;have hcz67_3 : w66.cell? ⟨gb189,3,none⟩ = some (.slice A0_3 l0_3.length c0_3):=(bC BK189.out 3).trans rfl;have hcz67_4 : w66.cell? ⟨gb189,4,none⟩ = some (.string a0_4):=(bC BK189.out 4).trans rfl;have hcz67_5 : w66.cell? ⟨gb189,5,none⟩ = some (.string a0_5):=(bC BK189.out 5).trans rfl;have hfz67_0:=bF BK189.out 0;have hfz67_1:=bF BK189.out 1;have hfz67_2:=bF BK189.out 2;have hfz67_3:=bF BK189.out 3;have hfz67_4:=bF BK189.out 4;have hfz67_5:=bF BK189.out 5) | ((with_reducible refine gC (f:=66) rfl ?_);refine goesL_ (some 6) rfl rfl Tryz.func66 (by kernel_rfl) rfl #[.string a0_1] rfl (by (try simp only [List.map_toArray,List.map_cons,List.map_nil]);first | done | rfl | (simp only [List.length_drop,List.length_take];rfl)) ?_;(with_reducible refine (r06_Class.calls k a0_1 true _ A2.out).mono ?_);rintro e w' ⟨rfl,⟨nd,rfl⟩⟩;refine ⟨_,rfl,?_⟩))
    go_ret
    exact ⟨by first | rfl | (simp [eN,eS] <;> rfl) | (simp [*,eN,eS] <;> rfl),by repeat (first | (with_reducible first | exact HB.out | apply bA | apply bN | apply bD | refine bT ?_ GE189.out) | exact HB.out)⟩
 ·replace c3:=Bool.eq_false_iff.mpr c3
  subst c3
  have H1 : (some false) = some r:=by rw [if_neg (show ¬ (false = true) by decide)] at H;exact H
  clear H
  have H:=H1
  clear H1
  obtain rfl:=Option.some.inj H
  go_enter Tryz.func24,Tryz.ntmps24
  go_wp2_with (first | ((with_reducible refine gate_dst (N:=1) rfl ?_);(try (refine gate_guard (by rfl) ?_;dsimp only));refine box_event ?hg (N:=1) ?hd (cs:=#[.int .i64 a0_0,.string a0_1,.string a0_2,.slice A0_3 l0_3.length c0_3,.string a0_4,.string a0_5]) (t:=34) ?hr ?_;(case hd=>rfl);(case hg=>rfl);(case hr=>first | (go_simp;done) | (go_simp;rfl));intro gb189 hg w68 hbox hb;have n0_:=As.mk (bS (by repeat (first | (with_reducible first | exact HB.out | apply bA | apply bN | apply bD) | exact HB.out)) hb);have n1_:=As.mk (hbox);have n2_:=As.mk ((by rw [hg];exact (bZ (by repeat (first | (with_reducible first | exact HB.out | apply bA | apply bN | apply bD) | exact HB.out))) : w.heap.size ≤ gb189));have n3_:=As.mk ((by rw [hg];exact (bZ (by repeat (first | (with_reducible first | exact HB.out | apply bA | apply bN | apply bD) | exact HB.out))) : w.heap.size ≤ gb189));clear HB;have HB:=n0_;have BK189:=n1_;have GW189:=n2_;have GE189:=n3_;clear n0_ n1_ n2_ n3_;clear hb hbox hg;have hcz69_0 : w68.cell? ⟨gb189,0,none⟩ = some (.int .i64 a0_0):=(bC BK189.out 0).trans rfl;have hcz69_1 : w68.cell? ⟨gb189,1,none⟩ = some (.string a0_1):=(bC BK189.out 1).trans rfl;have hcz69_2 : w68.cell? ⟨gb189,2,none⟩ = some (.string a0_2):=(bC BK189.out 2).trans rfl;have hcz69_3 : w68.cell? ⟨gb189,3,none⟩ = some (.slice A0_3 l0_3.length c0_3):=(bC BK189.out 3).trans rfl;have hcz69_4 : w68.cell? ⟨gb189,4,none⟩ = some (.string a0_4):=(bC BK189.out 4).trans rfl;have hcz69_5 : w68.cell? ⟨gb189,5,none⟩ = some (.string a0_5):=(bC BK189.out 5).trans rfl;have hfz69_0:=bF BK189.out 0;have hfz69_1:=bF BK189.out 1;have hfz69_2:=bF BK189.out 2;have hfz69_3:=bF BK189.out 3;have hfz69_4:=bF BK189.out 4;have hfz69_5:=bF BK189.out 5) | ((with_reducible refine gC (f:=66) rfl ?_);refine goesL_ (some 6) rfl rfl Tryz.func66 (by kernel_rfl) rfl #[.string a0_1] rfl (by (try simp only [List.map_toArray,List.map_cons,List.map_nil]);first | done | rfl | (simp only [List.length_drop,List.length_take];rfl)) ?_;(with_reducible refine (r06_Class.calls k a0_1 false _ A2.out).mono ?_);rintro e w' ⟨rfl,⟨nd,rfl⟩⟩;refine ⟨_,rfl,?_⟩))
  go_ret
  exact ⟨by first | rfl | (simp [eN,eS] <;> rfl) | (simp [*,eN,eS] <;> rfl),by repeat (first | (with_reducible first | exact HB.out | apply bA | apply bN | apply bD | refine bT ?_ GE189.out) | exact HB.out)⟩
end Go.Proofs.YtmlebgikdegjjaaGreatDoor.PAll
