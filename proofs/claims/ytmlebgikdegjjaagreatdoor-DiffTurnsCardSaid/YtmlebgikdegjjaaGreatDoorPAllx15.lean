import Derived.Test.YtmlebgikdegjjaaGreatDoorPAllx0
import Derived.Test.YtmlebgikdegjjaaGreatDoorPAllx14
set_option maxHeartbeats 8000000
set_option maxRecDepth 100000
namespace Go.Proofs.YtmlebgikdegjjaaGreatDoor.PAll
open Go.RowKit Go.Proofs.YtmlebgikdegjjaaGreatDoorW.PrintWords Go.Proofs.YtmlebgikdegjjaaGreatDoorW.PrintLast Go.Proofs.YtmlebgikdegjjaaGreatDoorW.PrintMore
attribute [local go_sem] max2_int min2_int max_two min_two max_three min_three max_four min_four   -- for this text's walks alone
set_option linter.unusedVariables false
set_option linter.unusedSimpArgs false
/-! ### r09_Same: function 29 -/
def r09_Same.l0 : Nat → List (S82) → List (S82) → Int → Option (Bool)
 | 0,_,_,_=>none
 | k + 1,x0,x1,x5=>if x5 < (x0.length : Int) then (if 0 ≤ x5 then (if x5 < (x1.length : Int) then (if ((rd_T82 x0 x5).f0).toList = ((rd_T82 x1 x5).f0).toList then ((r07_SameAll.f k ((rd_T82 x0 x5).f1) ((rd_T82 x1 x5).f1)).bind fun t379=>(if t379 = true then ((r07_SameAll.f k ((rd_T82 x0 x5).f2) ((rd_T82 x1 x5).f2)).bind fun t382=>(if t382 = true then (r09_Same.l0 k x0 x1 (wrap64 (x5 + 1))) else (some false))) else (some false))) else (some false)) else (none)) else (none)) else (some true)
def r09_Same.f (k : Nat) (l0 : List (S82)) (l1 : List (S82)) : Option (Bool):=if (l0.length : Int) = (l1.length : Int) then (r09_Same.l0 k l0 l1 0) else (some false)
theorem r09_Same.mono_l : ∀ k,(∀ y0 y1 y2,LeO (r09_Same.l0 k y0 y1 y2) (r09_Same.l0 (k + 1) y0 y1 y2))
 | 0=>fun _ _ _ r h=>by simp [r09_Same.l0] at h
 | k + 1=>by
  have ih0:=r09_Same.mono_l k
  ·intro y0 y1 y2
   unfold r09_Same.l0
   repeat' first
   | (with_reducible exact ih0 _ _ _)
   | (with_reducible exact r07_SameAll.mono _ _ _)
   | (with_reducible exact LeO.refl _)
   | (with_reducible exact LeO.none _)
   | (with_reducible refine LeO.ite ?_ ?_)
   | (with_reducible refine LeO.bind ?_ (fun _=>?_))
   | exact ih0 _ _ _
   | exact r07_SameAll.mono _ _ _
   | exact LeO.none _
   | refine LeO.ite ?_ ?_
   | refine LeO.bind ?_ (fun _=>?_)
theorem r09_Same.mono : ∀ a0 a1 k,LeO (r09_Same.f k a0 a1) (r09_Same.f (k + 1) a0 a1):=by
 intro a0 a1 k
 have ih0:=r09_Same.mono_l k
 unfold r09_Same.f
 repeat' first
   | (with_reducible exact ih0 _ _ _)
   | (with_reducible exact r07_SameAll.mono _ _ _)
   | (with_reducible exact LeO.refl _)
   | (with_reducible exact LeO.none _)
   | (with_reducible refine LeO.ite ?_ ?_)
   | (with_reducible refine LeO.bind ?_ (fun _=>?_))
   | exact ih0 _ _ _
   | exact r07_SameAll.mono _ _ _
   | exact LeO.none _
   | refine LeO.ite ?_ ?_
   | refine LeO.bind ?_ (fun _=>?_)
def r09_Same.T6 : Bool × List (List Nat × List Nat):=(true,[([],[]),([],[]),([0,1],[0,1]),([2],[2]),([3],[3]),([],[]),([],[]),([5,6],[5,6]),([7],[7]),([8],[8]),([4,9],[4,9]),([10],[10]),([11],[11]),([11],[11]),([12,13,11],[11,12,13]),([14,11],[11,14]),([15,11],[11,15]),([11],[11]),([11],[11]),([17,18,11],[11,17,18]),([19,11],[11,19]),([20,11],[11,20]),([16,21,11,11],[11,16,21]),([22,11],[11,22]),([11,23],[11,23]),([24,22],[24]),([25],[25]),([25],[25]),([26,27,25],[25,26,27]),([28,25],[25,28]),([29,25],[25,29]),([25],[25]),([25],[25]),([31,32,25],[25,31,32]),([33,25],[25,33]),([34,25],[25,34]),([30,35,25,25],[25,30,35]),([36,25],[25,36]),([25,37],[25,37])])
def r09_Same.B6 : List Nat:=[0,0,3,7,15,0,0,96,224,480,1023,2047,4095,4095,16383,32767,65535,4095,4095,397311,921599,1970175,4194303,8388607,16777215,33554431,67108863,67108863,268435455,536870911,1073741823,67108863,67108863,6509559807,15099494399,32279363583,68719476735,137438953471,274877906943]
theorem r09_Same.tab6 : rtab .any (opsOf Tryz.f29 6) = r09_Same.T6:=by kernel_rfl
theorem r09_Same.bits6 : waitsOk r09_Same.T6.2 r09_Same.B6 = true:=by kernel_rfl
theorem r09_Same.calls (k : Nat) (A0 : Option Addr) (c0 : Nat) (l0 : List (S82)) (A1 : Option Addr) (c1 : Nat) (l1 : List (S82)) (r : Bool) (w : World) (hr0 : Kd.C k82 w A0 l0.length l0) (hc0 : l0.length ≤ c0) (hr1 : Kd.C k82 w A1 l1.length l1) (hc1 : l1.length ≤ c1) (h : r09_Same.f k l0 l1 = some r) :
  Calls Tryz.prog 29 #[.slice A0 l0.length c0,.slice A1 l1.length c1] w fun e w'=>e = .returned (.bool r) ∧ Below w.heap.size w w':=by
 have HR0:=As.mk hr0
 have HC0:=As.mk hc0
 clear hr0 hc0
 have HR1:=As.mk hr1
 have HC1:=As.mk hc1
 clear hr1 hc1
 have HB:=As.mk (Below.refl w.heap.size w)
 have H : (if (l0.length : Int) = (l1.length : Int) then (r09_Same.l0 k l0 l1 0) else (some false)) = some r:=h
 clear h
 by_cases c3 : (l0.length : Int) = (l1.length : Int)
 ·rw [if_pos c3] at H
  have c3b0 : ((l0.length : Int) == (l1.length : Int)) = true:=beq_iff_eq.mpr c3
  have c3b1 : ((l0.length : Int) != (l1.length : Int)) = false:=bne_eq_false_iff_eq.mpr c3
  have c3b2 : (l0.length == l1.length) = true:=by first | simpa using c3 | (simp at c3 ⊢;omega)
  clear c3
  have H':=As.mk H
  clear H
  go_enter Tryz.func29,Tryz.ntmps29
  go_wp2
  go_loopg [5] k (fun kq v5 w'=>∃ (x5_1 : Int),v5 = .int .i64 x5_1 ∧ As (r09_Same.l0 kq l0 l1 x5_1 = some r) ∧ As (kq ≤ k) ∧ As (Below w.heap.size w w'))
  case atStart=>exact ⟨(0),(by first | rfl | (simp;done) | (simp [*];done)),H',⟨Nat.le_refl _⟩,⟨by repeat (first | (with_reducible first | exact HB.out | apply bA | apply bN | apply bD) | exact HB.out)⟩⟩
  case round =>
   clear H'
   try clear c1
   try clear c2
   try clear p2
   try clear c3
   try clear c3b0
   try clear c3b1
   try clear c3b2
   obtain ⟨x5_1,rfl,HA,HK1,HB⟩:=hrel
   cases gk with
   | zero=>exact absurd HA.out (by simp [r09_Same.l0])
   | succ k1 =>
    have H:=HA.out
    clear HA
    simp only [r09_Same.l0] at H
    by_cases c4 : x5_1 < (l0.length : Int)
    ·rw [if_pos c4] at H
     have c4b0 : decide (x5_1 < (l0.length : Int)) = true:=decide_eq_true c4
     clear c4
     by_cases c5 : 0 ≤ x5_1
     ·rw [if_pos c5] at H
      have c5b0 : decide (0 ≤ x5_1) = true:=decide_eq_true c5
      clear c5
      by_cases c6 : x5_1 < (l1.length : Int)
      ·rw [if_pos c6] at H
       have c6b0 : decide (x5_1 < (l1.length : Int)) = true:=decide_eq_true c6
       clear c6
       by_cases c7 : ((rd_T82 l0 x5_1).f0).toList = ((rd_T82 l1 x5_1).f0).toList
       ·rw [if_pos c7] at H
        have c7b0 : (((rd_T82 l0 x5_1).f0).toList == ((rd_T82 l1 x5_1).f0).toList) = true:=beq_iff_eq.mpr c7
        have c7b1 : (((rd_T82 l0 x5_1).f0).toList != ((rd_T82 l1 x5_1).f0).toList) = false:=bne_eq_false_iff_eq.mpr c7
        clear c7
        replace H:=Option.bind_eq_some_iff.mp H
        obtain ⟨t379,A80,H⟩:=H
        replace H : (if t379 = true then ((r07_SameAll.f k1 ((rd_T82 l0 x5_1).f2) ((rd_T82 l1 x5_1).f2)).bind fun t382=>(if t382 = true then (r09_Same.l0 k1 l0 l1 (wrap64 (x5_1 + 1))) else (some false))) else (some false)) = some r:=H
        have A8:=As.mk A80
        clear A80
        by_cases c9 : t379 = true
        ·subst c9
         have H1 : ((r07_SameAll.f k1 ((rd_T82 l0 x5_1).f2) ((rd_T82 l1 x5_1).f2)).bind fun t382=>(if t382 = true then (r09_Same.l0 k1 l0 l1 (wrap64 (x5_1 + 1))) else (some false))) = some r:=by rw [if_pos rfl] at H;exact H
         clear H
         have H:=H1
         clear H1
         replace H:=Option.bind_eq_some_iff.mp H
         obtain ⟨t382,A100,H⟩:=H
         replace H : (if t382 = true then (r09_Same.l0 k1 l0 l1 (wrap64 (x5_1 + 1))) else (some false)) = some r:=H
         have A10:=As.mk A100
         clear A100
         by_cases c11 : t382 = true
         ·subst c11
          have H1 : (r09_Same.l0 k1 l0 l1 (wrap64 (x5_1 + 1))) = some r:=by rw [if_pos rfl] at H;exact H
          clear H
          have H:=H1
          clear H1
          have H':=As.mk H
          clear H
          try go_wp2
          have n0_:=As.mk (bD HB.out)
          clear HB
          have HB:=n0_
          clear n0_
          have p375 : 0 ≤ (x5_1 : Int):=of_decide_eq_true (by first | (with_reducible assumption) | assumption)
          have q375 : x5_1 < (l0.length : Int):=of_decide_eq_true (by first | (with_reducible assumption) | assumption)
          obtain ⟨ad375,A375_1,c375_1,A375_2,c375_2,e375,hx375_0,hx375_1,hx375_2,hl375_1,hi375_1,hl375_2,hi375_2⟩:=at_T82 HR0.out x5_1 p375 q375
          have hw375_2:=hx375_2
          have hw375_1:=hx375_1
          have hw375_0:=hx375_0
          cases e375
          replace hx375_0:=(HB.out.cell (World.block_lt_of_cell? w _ hx375_0)).trans hx375_0
          replace hx375_1:=(HB.out.cell (World.block_lt_of_cell? w _ hx375_1)).trans hx375_1
          replace hx375_2:=(HB.out.cell (World.block_lt_of_cell? w _ hx375_2)).trans hx375_2
          have HR375_1:=As.mk hi375_1
          have HC375_1:=As.mk hl375_1
          clear hi375_1 hl375_1
          have HR375_2:=As.mk hi375_2
          have HC375_2:=As.mk hl375_2
          clear hi375_2 hl375_2
          replace p375:=eq_true p375
          replace q375:=eq_true q375
          have p376 : 0 ≤ (x5_1 : Int):=of_decide_eq_true (by first | (with_reducible assumption) | assumption)
          have q376 : x5_1 < (l1.length : Int):=of_decide_eq_true (by first | (with_reducible assumption) | assumption)
          obtain ⟨ad376,A376_1,c376_1,A376_2,c376_2,e376,hx376_0,hx376_1,hx376_2,hl376_1,hi376_1,hl376_2,hi376_2⟩:=at_T82 HR1.out x5_1 p376 q376
          have hw376_2:=hx376_2
          have hw376_1:=hx376_1
          have hw376_0:=hx376_0
          cases e376
          replace hx376_0:=(HB.out.cell (World.block_lt_of_cell? w _ hx376_0)).trans hx376_0
          replace hx376_1:=(HB.out.cell (World.block_lt_of_cell? w _ hx376_1)).trans hx376_1
          replace hx376_2:=(HB.out.cell (World.block_lt_of_cell? w _ hx376_2)).trans hx376_2
          have HR376_1:=As.mk hi376_1
          have HC376_1:=As.mk hl376_1
          clear hi376_1 hl376_1
          have HR376_2:=As.mk hi376_2
          have HC376_2:=As.mk hl376_2
          clear hi376_2 hl376_2
          replace p376:=eq_true p376
          replace q376:=eq_true q376
          have p377 : 0 ≤ (x5_1 : Int):=of_decide_eq_true (by first | (with_reducible assumption) | assumption)
          have q377 : x5_1 < (l0.length : Int):=of_decide_eq_true (by first | (with_reducible assumption) | assumption)
          obtain ⟨ad377,A377_1,c377_1,A377_2,c377_2,e377,hx377_0,hx377_1,hx377_2,hl377_1,hi377_1,hl377_2,hi377_2⟩:=at_T82 HR0.out x5_1 p377 q377
          have hw377_2:=hx377_2
          have hw377_1:=hx377_1
          have hw377_0:=hx377_0
          obtain rfl : ad375 = ad377:=(by injection e377)
          replace hx377_0:=(HB.out.cell (World.block_lt_of_cell? w _ hx377_0)).trans hx377_0
          replace hx377_1:=(HB.out.cell (World.block_lt_of_cell? w _ hx377_1)).trans hx377_1
          replace hx377_2:=(HB.out.cell (World.block_lt_of_cell? w _ hx377_2)).trans hx377_2
          have HR377_1:=As.mk hi377_1
          have HC377_1:=As.mk hl377_1
          clear hi377_1 hl377_1
          have HR377_2:=As.mk hi377_2
          have HC377_2:=As.mk hl377_2
          clear hi377_2 hl377_2
          replace p377:=eq_true p377
          replace q377:=eq_true q377
          have ea_:=Option.some.inj (hx375_1.symm.trans hx377_1)
          injection ea_ with ea_ en_ ec_
          subst ea_
          subst ec_
          clear en_
          have ea_:=Option.some.inj (hx375_2.symm.trans hx377_2)
          injection ea_ with ea_ en_ ec_
          subst ea_
          subst ec_
          clear en_
          have p378 : 0 ≤ (x5_1 : Int):=of_decide_eq_true (by first | (with_reducible assumption) | assumption)
          have q378 : x5_1 < (l1.length : Int):=of_decide_eq_true (by first | (with_reducible assumption) | assumption)
          obtain ⟨ad378,A378_1,c378_1,A378_2,c378_2,e378,hx378_0,hx378_1,hx378_2,hl378_1,hi378_1,hl378_2,hi378_2⟩:=at_T82 HR1.out x5_1 p378 q378
          have hw378_2:=hx378_2
          have hw378_1:=hx378_1
          have hw378_0:=hx378_0
          obtain rfl : ad376 = ad378:=(by injection e378)
          replace hx378_0:=(HB.out.cell (World.block_lt_of_cell? w _ hx378_0)).trans hx378_0
          replace hx378_1:=(HB.out.cell (World.block_lt_of_cell? w _ hx378_1)).trans hx378_1
          replace hx378_2:=(HB.out.cell (World.block_lt_of_cell? w _ hx378_2)).trans hx378_2
          have HR378_1:=As.mk hi378_1
          have HC378_1:=As.mk hl378_1
          clear hi378_1 hl378_1
          have HR378_2:=As.mk hi378_2
          have HC378_2:=As.mk hl378_2
          clear hi378_2 hl378_2
          replace p378:=eq_true p378
          replace q378:=eq_true q378
          have ea_:=Option.some.inj (hx376_1.symm.trans hx378_1)
          injection ea_ with ea_ en_ ec_
          subst ea_
          subst ec_
          clear en_
          have ea_:=Option.some.inj (hx376_2.symm.trans hx378_2)
          injection ea_ with ea_ en_ ec_
          subst ea_
          subst ec_
          clear en_
          have p380 : 0 ≤ (x5_1 : Int):=of_decide_eq_true (by first | (with_reducible assumption) | assumption)
          have q380 : x5_1 < (l0.length : Int):=of_decide_eq_true (by first | (with_reducible assumption) | assumption)
          obtain ⟨ad380,A380_1,c380_1,A380_2,c380_2,e380,hx380_0,hx380_1,hx380_2,hl380_1,hi380_1,hl380_2,hi380_2⟩:=at_T82 HR0.out x5_1 p380 q380
          have hw380_2:=hx380_2
          have hw380_1:=hx380_1
          have hw380_0:=hx380_0
          obtain rfl : ad375 = ad380:=(by injection e380)
          replace hx380_0:=(HB.out.cell (World.block_lt_of_cell? w _ hx380_0)).trans hx380_0
          replace hx380_1:=(HB.out.cell (World.block_lt_of_cell? w _ hx380_1)).trans hx380_1
          replace hx380_2:=(HB.out.cell (World.block_lt_of_cell? w _ hx380_2)).trans hx380_2
          have z380_:=Option.some.inj (hx375_2.symm.trans hx380_2);injection z380_ with za380_ zb380_ zc380_;clear zb380_;subst za380_;subst zc380_
          have HR380_1:=As.mk hi380_1
          have HC380_1:=As.mk hl380_1
          clear hi380_1 hl380_1
          have HR380_2:=As.mk hi380_2
          have HC380_2:=As.mk hl380_2
          clear hi380_2 hl380_2
          replace p380:=eq_true p380
          replace q380:=eq_true q380
          have p381 : 0 ≤ (x5_1 : Int):=of_decide_eq_true (by first | (with_reducible assumption) | assumption)
          have q381 : x5_1 < (l1.length : Int):=of_decide_eq_true (by first | (with_reducible assumption) | assumption)
          obtain ⟨ad381,A381_1,c381_1,A381_2,c381_2,e381,hx381_0,hx381_1,hx381_2,hl381_1,hi381_1,hl381_2,hi381_2⟩:=at_T82 HR1.out x5_1 p381 q381
          have hw381_2:=hx381_2
          have hw381_1:=hx381_1
          have hw381_0:=hx381_0
          obtain rfl : ad376 = ad381:=(by injection e381)
          replace hx381_0:=(HB.out.cell (World.block_lt_of_cell? w _ hx381_0)).trans hx381_0
          replace hx381_1:=(HB.out.cell (World.block_lt_of_cell? w _ hx381_1)).trans hx381_1
          replace hx381_2:=(HB.out.cell (World.block_lt_of_cell? w _ hx381_2)).trans hx381_2
          have z381_:=Option.some.inj (hx376_2.symm.trans hx381_2);injection z381_ with za381_ zb381_ zc381_;clear zb381_;subst za381_;subst zc381_
          have HR381_1:=As.mk hi381_1
          have HC381_1:=As.mk hl381_1
          clear hi381_1 hl381_1
          have HR381_2:=As.mk hi381_2
          have HC381_2:=As.mk hl381_2
          clear hi381_2 hl381_2
          replace p381:=eq_true p381
          replace q381:=eq_true q381
          refine start_ (n:=39) (S:=fun w'=>w'.cell? (ad375.add ((x5_1).toNat * 3)) = some (.string ((rd_T82 l0 x5_1).f0)) ∧ w'.cell? ⟨(ad375.add ((x5_1).toNat * 3)).block,(ad375.add ((x5_1).toNat * 3)).off + 1,none⟩ = some (.slice A375_1 ((rd_T82 l0 x5_1).f1).length c375_1) ∧ w'.cell? ⟨(ad375.add ((x5_1).toNat * 3)).block,(ad375.add ((x5_1).toNat * 3)).off + 2,none⟩ = some (.slice A375_2 ((rd_T82 l0 x5_1).f2).length c375_2) ∧ w'.cell? (ad376.add ((x5_1).toNat * 3)) = some (.string ((rd_T82 l1 x5_1).f0)) ∧ w'.cell? ⟨(ad376.add ((x5_1).toNat * 3)).block,(ad376.add ((x5_1).toNat * 3)).off + 1,none⟩ = some (.slice A376_1 ((rd_T82 l1 x5_1).f1).length c376_1) ∧ w'.cell? ⟨(ad376.add ((x5_1).toNat * 3)).block,(ad376.add ((x5_1).toNat * 3)).off + 2,none⟩ = some (.slice A376_2 ((rd_T82 l1 x5_1).f2).length c376_2) ∧ w'.cell? (ad375.add ((x5_1).toNat * 3)) = some (.string ((rd_T82 l0 x5_1).f0)) ∧ w'.cell? ⟨(ad375.add ((x5_1).toNat * 3)).block,(ad375.add ((x5_1).toNat * 3)).off + 1,none⟩ = some (.slice A375_1 ((rd_T82 l0 x5_1).f1).length c375_1) ∧ w'.cell? ⟨(ad375.add ((x5_1).toNat * 3)).block,(ad375.add ((x5_1).toNat * 3)).off + 2,none⟩ = some (.slice A375_2 ((rd_T82 l0 x5_1).f2).length c375_2) ∧ w'.cell? (ad376.add ((x5_1).toNat * 3)) = some (.string ((rd_T82 l1 x5_1).f0)) ∧ w'.cell? ⟨(ad376.add ((x5_1).toNat * 3)).block,(ad376.add ((x5_1).toNat * 3)).off + 1,none⟩ = some (.slice A376_1 ((rd_T82 l1 x5_1).f1).length c376_1) ∧ w'.cell? ⟨(ad376.add ((x5_1).toNat * 3)).block,(ad376.add ((x5_1).toNat * 3)).off + 2,none⟩ = some (.slice A376_2 ((rd_T82 l1 x5_1).f2).length c376_2) ∧ w'.cell? (ad375.add ((x5_1).toNat * 3)) = some (.string ((rd_T82 l0 x5_1).f0)) ∧ w'.cell? ⟨(ad375.add ((x5_1).toNat * 3)).block,(ad375.add ((x5_1).toNat * 3)).off + 1,none⟩ = some (.slice A380_1 ((rd_T82 l0 x5_1).f1).length c380_1) ∧ w'.cell? ⟨(ad375.add ((x5_1).toNat * 3)).block,(ad375.add ((x5_1).toNat * 3)).off + 2,none⟩ = some (.slice A375_2 ((rd_T82 l0 x5_1).f2).length c375_2) ∧ w'.cell? (ad376.add ((x5_1).toNat * 3)) = some (.string ((rd_T82 l1 x5_1).f0)) ∧ w'.cell? ⟨(ad376.add ((x5_1).toNat * 3)).block,(ad376.add ((x5_1).toNat * 3)).off + 1,none⟩ = some (.slice A381_1 ((rd_T82 l1 x5_1).f1).length c381_1) ∧ w'.cell? ⟨(ad376.add ((x5_1).toNat * 3)).block,(ad376.add ((x5_1).toNat * 3)).off + 2,none⟩ = some (.slice A376_2 ((rd_T82 l1 x5_1).f2).length c376_2)) (ds:=[]) #[false,false,false,false,false,false,false,false,false,false,false,false,false,false,false,false,false,false,false,false,false,false,false,false,false,false,false,false,false,false,false,false,false,false,false,false,false,false,false] (by kernel_rfl) rfl rfl ⟨((HB.out.cell (World.block_lt_of_cell? w _ hw375_0)).trans hw375_0),((HB.out.cell (World.block_lt_of_cell? w _ hw375_1)).trans hw375_1),((HB.out.cell (World.block_lt_of_cell? w _ hw375_2)).trans hw375_2),((HB.out.cell (World.block_lt_of_cell? w _ hw376_0)).trans hw376_0),((HB.out.cell (World.block_lt_of_cell? w _ hw376_1)).trans hw376_1),((HB.out.cell (World.block_lt_of_cell? w _ hw376_2)).trans hw376_2),((HB.out.cell (World.block_lt_of_cell? w _ hw377_0)).trans hw377_0),((HB.out.cell (World.block_lt_of_cell? w _ hw377_1)).trans hw377_1),((HB.out.cell (World.block_lt_of_cell? w _ hw377_2)).trans hw377_2),((HB.out.cell (World.block_lt_of_cell? w _ hw378_0)).trans hw378_0),((HB.out.cell (World.block_lt_of_cell? w _ hw378_1)).trans hw378_1),((HB.out.cell (World.block_lt_of_cell? w _ hw378_2)).trans hw378_2),((HB.out.cell (World.block_lt_of_cell? w _ hw380_0)).trans hw380_0),((HB.out.cell (World.block_lt_of_cell? w _ hw380_1)).trans hw380_1),((HB.out.cell (World.block_lt_of_cell? w _ hw380_2)).trans hw380_2),((HB.out.cell (World.block_lt_of_cell? w _ hw381_0)).trans hw381_0),((HB.out.cell (World.block_lt_of_cell? w _ hw381_1)).trans hw381_1),((HB.out.cell (World.block_lt_of_cell? w _ hw381_2)).trans hw381_2)⟩ (fun hHeld=>?_);refine with_tabW r09_Same.tab6 r09_Same.bits6 (fun HT_ HW_=>?_)
          generalize wr.drew = w12 at HB HR375_1 HR375_2 HR376_1 HR376_2 HR377_1 HR377_2 HR378_1 HR378_2 HR380_1 HR380_2 HR381_1 HR381_2 hx375_0 hx375_1 hx375_2 hx376_0 hx376_1 hx376_2 hx377_0 hx377_1 hx377_2 hx378_0 hx378_1 hx378_2 hx380_0 hx380_1 hx380_2 hx381_0 hx381_1 hx381_2 hHeld ⊢
          refine pure_ (i:=0) (N:=some 17) (v:=?_) (a':=?_) #[true,false,false,false,false,false,false,false,false,false,false,false,false,false,false,false,false,false,false,false,false,false,false,false,false,false,false,false,false,false,false,false,false,false,false,false,false,false,false] rfl rfl (any_of HT_.out (by kernel_rfl)) (fun _ _ _ h=>h) (Or.inl ⟨by rfl,?_⟩) ?_ ?_
          rotate_left
          ·intro w'
           go_simp
           with_reducible rfl
          rotate_left
          ·simp only [Act.put,List.setIfInBounds_toArray,List.set_cons_zero,List.set_cons_succ,i64_w,i32_w]
           rfl
          refine pure_ (i:=1) (N:=some 18) (v:=?_) (a':=?_) #[true,true,false,false,false,false,false,false,false,false,false,false,false,false,false,false,false,false,false,false,false,false,false,false,false,false,false,false,false,false,false,false,false,false,false,false,false,false,false] rfl rfl (any_of HT_.out (by kernel_rfl)) (fun _ _ _ h=>h) (Or.inl ⟨by rfl,?_⟩) ?_ ?_
          rotate_left
          ·intro w'
           go_simp
           with_reducible rfl
          rotate_left
          ·simp only [Act.put,List.setIfInBounds_toArray,List.set_cons_zero,List.set_cons_succ,i64_w,i32_w]
           rfl
          refine pure_ (i:=2) (N:=some 19) (v:=?_) (a':=?_) #[true,true,true,false,false,false,false,false,false,false,false,false,false,false,false,false,false,false,false,false,false,false,false,false,false,false,false,false,false,false,false,false,false,false,false,false,false,false,false] rfl rfl (any_of HT_.out (by kernel_rfl)) (fun _ _ _ h=>h) (Or.inl ⟨by rfl,?_⟩) ?_ ?_
          rotate_left
          ·intro w'
           go_simp
           with_reducible rfl
          rotate_left
          ·simp only [Act.put,List.setIfInBounds_toArray,List.set_cons_zero,List.set_cons_succ,i64_w,i32_w]
           rfl
          refine pure_ (i:=3) (N:=some 20) (v:=?_) (a':=?_) #[true,true,true,true,false,false,false,false,false,false,false,false,false,false,false,false,false,false,false,false,false,false,false,false,false,false,false,false,false,false,false,false,false,false,false,false,false,false,false] rfl rfl (any_of HT_.out (by kernel_rfl)) (fun _ _ _ h=>h) (Or.inl ⟨by rfl,?_⟩) ?_ ?_
          rotate_left
          ·intro w'
           go_simp
           with_reducible rfl
          rotate_left
          ·simp only [Act.put,List.setIfInBounds_toArray,List.set_cons_zero,List.set_cons_succ,i64_w,i32_w]
           rfl
          refine pure_ (i:=5) (N:=some 22) (v:=?_) (a':=?_) #[true,true,true,true,false,true,false,false,false,false,false,false,false,false,false,false,false,false,false,false,false,false,false,false,false,false,false,false,false,false,false,false,false,false,false,false,false,false,false] rfl rfl (any_of HT_.out (by kernel_rfl)) (fun _ _ _ h=>h) (Or.inl ⟨by rfl,?_⟩) ?_ ?_
          rotate_left
          ·intro w'
           go_simp
           with_reducible rfl
          rotate_left
          ·simp only [Act.put,List.setIfInBounds_toArray,List.set_cons_zero,List.set_cons_succ,i64_w,i32_w]
           rfl
          refine pure_ (i:=6) (N:=some 23) (v:=?_) (a':=?_) #[true,true,true,true,false,true,true,false,false,false,false,false,false,false,false,false,false,false,false,false,false,false,false,false,false,false,false,false,false,false,false,false,false,false,false,false,false,false,false] rfl rfl (any_of HT_.out (by kernel_rfl)) (fun _ _ _ h=>h) (Or.inl ⟨by rfl,?_⟩) ?_ ?_
          rotate_left
          ·intro w'
           go_simp
           with_reducible rfl
          rotate_left
          ·simp only [Act.put,List.setIfInBounds_toArray,List.set_cons_zero,List.set_cons_succ,i64_w,i32_w]
           rfl
          refine pure_ (i:=7) (N:=some 24) (v:=?_) (a':=?_) #[true,true,true,true,false,true,true,true,false,false,false,false,false,false,false,false,false,false,false,false,false,false,false,false,false,false,false,false,false,false,false,false,false,false,false,false,false,false,false] rfl rfl (any_of HT_.out (by kernel_rfl)) (fun _ _ _ h=>h) (Or.inl ⟨by rfl,?_⟩) ?_ ?_
          rotate_left
          ·intro w'
           go_simp
           with_reducible rfl
          rotate_left
          ·simp only [Act.put,List.setIfInBounds_toArray,List.set_cons_zero,List.set_cons_succ,i64_w,i32_w]
           rfl
          refine pure_ (i:=8) (N:=some 25) (v:=?_) (a':=?_) #[true,true,true,true,false,true,true,true,true,false,false,false,false,false,false,false,false,false,false,false,false,false,false,false,false,false,false,false,false,false,false,false,false,false,false,false,false,false,false] rfl rfl (any_of HT_.out (by kernel_rfl)) (fun _ _ _ h=>h) (Or.inl ⟨by rfl,?_⟩) ?_ ?_
          rotate_left
          ·intro w'
           go_simp
           with_reducible rfl
          rotate_left
          ·simp only [Act.put,List.setIfInBounds_toArray,List.set_cons_zero,List.set_cons_succ,i64_w,i32_w]
           rfl
          refine take_ (i:=4) (N:=some 21) (v:=?_) (a':=?_) #[true,true,true,true,true,true,true,true,true,false,false,false,false,false,false,false,false,false,false,false,false,false,false,false,false,false,false,false,false,false,false,false,false,false,false,false,false,false,false] rfl rfl (take_ofW HT_.out HW_.out (by kernel_rfl)) (fun _ _ _ h=>h) (Or.inl ⟨by rfl,?_⟩) hHeld ?_ ?_
          rotate_left
          ·rintro w' ⟨s0,s1,s2,s3,s4,s5,s6,s7,s8,s9,s10,s11,s12,s13,s14,s15,s16,s17⟩
           go_simp
           with_reducible rfl
          rotate_left
          ·simp only [Act.put,List.setIfInBounds_toArray,List.set_cons_zero,List.set_cons_succ,i64_w,i32_w]
           rfl
          refine take_ (i:=9) (N:=some 26) (v:=?_) (a':=?_) #[true,true,true,true,true,true,true,true,true,true,false,false,false,false,false,false,false,false,false,false,false,false,false,false,false,false,false,false,false,false,false,false,false,false,false,false,false,false,false] rfl rfl (take_ofW HT_.out HW_.out (by kernel_rfl)) (fun _ _ _ h=>h) (Or.inl ⟨by rfl,?_⟩) hHeld ?_ ?_
          rotate_left
          ·rintro w' ⟨s0,s1,s2,s3,s4,s5,s6,s7,s8,s9,s10,s11,s12,s13,s14,s15,s16,s17⟩
           go_simp
           with_reducible rfl
          rotate_left
          ·simp only [Act.put,List.setIfInBounds_toArray,List.set_cons_zero,List.set_cons_succ,i64_w,i32_w]
           rfl
          refine pure_ (i:=10) (N:=some 27) (v:=?_) (a':=?_) #[true,true,true,true,true,true,true,true,true,true,true,false,false,false,false,false,false,false,false,false,false,false,false,false,false,false,false,false,false,false,false,false,false,false,false,false,false,false,false] rfl rfl (any_of HT_.out (by kernel_rfl)) (fun _ _ _ h=>h) (Or.inl ⟨by rfl,?_⟩) ?_ ?_
          rotate_left
          ·intro w'
           go_simp
           with_reducible rfl
          rotate_left
          ·simp only [Act.put,List.setIfInBounds_toArray,List.set_cons_zero,List.set_cons_succ,i64_w,i32_w]
           rfl
          refine pure_ (i:=11) (N:=some 28) (v:=?_) (a':=?_) #[true,true,true,true,true,true,true,true,true,true,true,true,false,false,false,false,false,false,false,false,false,false,false,false,false,false,false,false,false,false,false,false,false,false,false,false,false,false,false] rfl rfl (any_of HT_.out (by kernel_rfl)) (fun _ _ _ h=>h) (Or.inl ⟨by rfl,?_⟩) ?_ ?_
          rotate_left
          ·intro w'
           go_simp
           with_reducible rfl
          rotate_left
          ·simp only [Act.put,List.setIfInBounds_toArray,List.set_cons_zero,List.set_cons_succ,i64_w,i32_w]
           rfl
          refine pure_ (i:=12) (N:=some 29) (v:=?_) (a':=?_) #[true,true,true,true,true,true,true,true,true,true,true,true,true,false,false,false,false,false,false,false,false,false,false,false,false,false,false,false,false,false,false,false,false,false,false,false,false,false,false] rfl rfl (any_of HT_.out (by kernel_rfl)) (fun _ _ _ h=>h) (Or.inl ⟨by rfl,?_⟩) ?_ ?_
          rotate_left
          ·intro w'
           go_simp
           with_reducible rfl
          rotate_left
          ·simp only [Act.put,List.setIfInBounds_toArray,List.set_cons_zero,List.set_cons_succ,i64_w,i32_w]
           rfl
          refine pure_ (i:=13) (N:=some 30) (v:=?_) (a':=?_) #[true,true,true,true,true,true,true,true,true,true,true,true,true,true,false,false,false,false,false,false,false,false,false,false,false,false,false,false,false,false,false,false,false,false,false,false,false,false,false] rfl rfl (any_of HT_.out (by kernel_rfl)) (fun _ _ _ h=>h) (Or.inl ⟨by rfl,?_⟩) ?_ ?_
          rotate_left
          ·intro w'
           go_simp
           with_reducible rfl
          rotate_left
          ·simp only [Act.put,List.setIfInBounds_toArray,List.set_cons_zero,List.set_cons_succ,i64_w,i32_w]
           rfl
          refine pure_ (i:=14) (N:=some 31) (v:=?_) (a':=?_) #[true,true,true,true,true,true,true,true,true,true,true,true,true,true,true,false,false,false,false,false,false,false,false,false,false,false,false,false,false,false,false,false,false,false,false,false,false,false,false] rfl rfl (any_of HT_.out (by kernel_rfl)) (fun _ _ _ h=>h) (Or.inl ⟨by rfl,?_⟩) ?_ ?_
          rotate_left
          ·intro w'
           go_simp
           with_reducible rfl
          rotate_left
          ·simp only [Act.put,List.setIfInBounds_toArray,List.set_cons_zero,List.set_cons_succ,i64_w,i32_w]
           rfl
          refine pure_ (i:=15) (N:=some 32) (v:=?_) (a':=?_) #[true,true,true,true,true,true,true,true,true,true,true,true,true,true,true,true,false,false,false,false,false,false,false,false,false,false,false,false,false,false,false,false,false,false,false,false,false,false,false] rfl rfl (any_of HT_.out (by kernel_rfl)) (fun _ _ _ h=>h) (Or.inl ⟨by rfl,?_⟩) ?_ ?_
          rotate_left
          ·intro w'
           go_simp
           with_reducible rfl
          rotate_left
          ·simp only [Act.put,List.setIfInBounds_toArray,List.set_cons_zero,List.set_cons_succ,i64_w,i32_w]
           rfl
          refine pure_ (i:=17) (N:=some 34) (v:=?_) (a':=?_) #[true,true,true,true,true,true,true,true,true,true,true,true,true,true,true,true,false,true,false,false,false,false,false,false,false,false,false,false,false,false,false,false,false,false,false,false,false,false,false] rfl rfl (any_of HT_.out (by kernel_rfl)) (fun _ _ _ h=>h) (Or.inl ⟨by rfl,?_⟩) ?_ ?_
          rotate_left
          ·intro w'
           go_simp
           with_reducible rfl
          rotate_left
          ·simp only [Act.put,List.setIfInBounds_toArray,List.set_cons_zero,List.set_cons_succ,i64_w,i32_w]
           rfl
          refine pure_ (i:=18) (N:=some 35) (v:=?_) (a':=?_) #[true,true,true,true,true,true,true,true,true,true,true,true,true,true,true,true,false,true,true,false,false,false,false,false,false,false,false,false,false,false,false,false,false,false,false,false,false,false,false] rfl rfl (any_of HT_.out (by kernel_rfl)) (fun _ _ _ h=>h) (Or.inl ⟨by rfl,?_⟩) ?_ ?_
          rotate_left
          ·intro w'
           go_simp
           with_reducible rfl
          rotate_left
          ·simp only [Act.put,List.setIfInBounds_toArray,List.set_cons_zero,List.set_cons_succ,i64_w,i32_w]
           rfl
          refine pure_ (i:=19) (N:=some 36) (v:=?_) (a':=?_) #[true,true,true,true,true,true,true,true,true,true,true,true,true,true,true,true,false,true,true,true,false,false,false,false,false,false,false,false,false,false,false,false,false,false,false,false,false,false,false] rfl rfl (any_of HT_.out (by kernel_rfl)) (fun _ _ _ h=>h) (Or.inl ⟨by rfl,?_⟩) ?_ ?_
          rotate_left
          ·intro w'
           go_simp
           with_reducible rfl
          rotate_left
          ·simp only [Act.put,List.setIfInBounds_toArray,List.set_cons_zero,List.set_cons_succ,i64_w,i32_w]
           rfl
          refine pure_ (i:=20) (N:=some 37) (v:=?_) (a':=?_) #[true,true,true,true,true,true,true,true,true,true,true,true,true,true,true,true,false,true,true,true,true,false,false,false,false,false,false,false,false,false,false,false,false,false,false,false,false,false,false] rfl rfl (any_of HT_.out (by kernel_rfl)) (fun _ _ _ h=>h) (Or.inl ⟨by rfl,?_⟩) ?_ ?_
          rotate_left
          ·intro w'
           go_simp
           with_reducible rfl
          rotate_left
          ·simp only [Act.put,List.setIfInBounds_toArray,List.set_cons_zero,List.set_cons_succ,i64_w,i32_w]
           rfl
          refine take_ (i:=16) (N:=some 33) (v:=?_) (a':=?_) #[true,true,true,true,true,true,true,true,true,true,true,true,true,true,true,true,true,true,true,true,true,false,false,false,false,false,false,false,false,false,false,false,false,false,false,false,false,false,false] rfl rfl (take_ofW HT_.out HW_.out (by kernel_rfl)) (fun _ _ _ h=>h) (Or.inl ⟨by rfl,?_⟩) hHeld ?_ ?_
          rotate_left
          ·rintro w' ⟨s0,s1,s2,s3,s4,s5,s6,s7,s8,s9,s10,s11,s12,s13,s14,s15,s16,s17⟩
           go_simp
           with_reducible rfl
          rotate_left
          ·simp only [Act.put,List.setIfInBounds_toArray,List.set_cons_zero,List.set_cons_succ,i64_w,i32_w]
           rfl
          refine take_ (i:=21) (N:=some 38) (v:=?_) (a':=?_) #[true,true,true,true,true,true,true,true,true,true,true,true,true,true,true,true,true,true,true,true,true,true,false,false,false,false,false,false,false,false,false,false,false,false,false,false,false,false,false] rfl rfl (take_ofW HT_.out HW_.out (by kernel_rfl)) (fun _ _ _ h=>h) (Or.inl ⟨by rfl,?_⟩) hHeld ?_ ?_
          rotate_left
          ·rintro w' ⟨s0,s1,s2,s3,s4,s5,s6,s7,s8,s9,s10,s11,s12,s13,s14,s15,s16,s17⟩
           go_simp
           with_reducible rfl
          rotate_left
          ·simp only [Act.put,List.setIfInBounds_toArray,List.set_cons_zero,List.set_cons_succ,i64_w,i32_w]
           rfl
          refine one_ (i:=22) (N:=some 39) #[true,true,true,true,true,true,true,true,true,true,true,true,true,true,true,true,true,true,true,true,true,true,true,false,false,false,false,false,false,false,false,false,false,false,false,false,false,false,false] rfl rfl (one_of HT_.out (by kernel_rfl)) (by decide) (fun K hK=>?_)
          refine goes_ Tryz.func47 (by kernel_rfl) rfl #[.slice A375_1 ((rd_T82 l0 x5_1).f1).length c375_1,.slice A376_1 ((rd_T82 l1 x5_1).f1).length c376_1] (by rfl) rfl rfl (by (try simp only [List.map_toArray,List.map_cons,List.map_nil]);first | done | rfl | (simp only [List.length_drop,List.length_take];rfl)) ?_
          with_reducible refine (r07_SameAll.calls k1 _ _ ((rd_T82 l0 x5_1).f1) _ _ ((rd_T82 l1 x5_1).f1) true _ ?side1 ?side2 ?side3 ?side4 A8.out).mono ?_
          (case side1=>repeat (first | exact (Kd.C_below HR377_1.out HB.out) | (with_reducible refine Kd.C_alloc ?_ _) | (with_reducible refine Kd.C_drewN ?_ _) | (with_reducible refine Kd.C_drew ?_)))
          (case side2=>exact HC377_1.out)
          (case side3=>repeat (first | exact (Kd.C_below HR378_1.out HB.out) | (with_reducible refine Kd.C_alloc ?_ _) | (with_reducible refine Kd.C_drewN ?_ _) | (with_reducible refine Kd.C_drew ?_)))
          (case side4=>exact HC378_1.out)
          rintro e w13 ⟨rfl,hb⟩
          refine ⟨_,rfl,?_⟩
          have n0_:=As.mk (bS (by repeat (first | (with_reducible first | exact HB.out | apply bA | apply bN | apply bD) | exact HB.out)) hb)
          clear HB
          have HB:=n0_
          clear n0_
          (try clear hb)
          (try clear hb2)
          (try clear hk)
          (try clear hi)
          refine hK.out _ _ ⟨((HB.out.cell (World.block_lt_of_cell? w _ hw375_0)).trans hw375_0),((HB.out.cell (World.block_lt_of_cell? w _ hw375_1)).trans hw375_1),((HB.out.cell (World.block_lt_of_cell? w _ hw375_2)).trans hw375_2),((HB.out.cell (World.block_lt_of_cell? w _ hw376_0)).trans hw376_0),((HB.out.cell (World.block_lt_of_cell? w _ hw376_1)).trans hw376_1),((HB.out.cell (World.block_lt_of_cell? w _ hw376_2)).trans hw376_2),((HB.out.cell (World.block_lt_of_cell? w _ hw377_0)).trans hw377_0),((HB.out.cell (World.block_lt_of_cell? w _ hw377_1)).trans hw377_1),((HB.out.cell (World.block_lt_of_cell? w _ hw377_2)).trans hw377_2),((HB.out.cell (World.block_lt_of_cell? w _ hw378_0)).trans hw378_0),((HB.out.cell (World.block_lt_of_cell? w _ hw378_1)).trans hw378_1),((HB.out.cell (World.block_lt_of_cell? w _ hw378_2)).trans hw378_2),((HB.out.cell (World.block_lt_of_cell? w _ hw380_0)).trans hw380_0),((HB.out.cell (World.block_lt_of_cell? w _ hw380_1)).trans hw380_1),((HB.out.cell (World.block_lt_of_cell? w _ hw380_2)).trans hw380_2),((HB.out.cell (World.block_lt_of_cell? w _ hw381_0)).trans hw381_0),((HB.out.cell (World.block_lt_of_cell? w _ hw381_1)).trans hw381_1),((HB.out.cell (World.block_lt_of_cell? w _ hw381_2)).trans hw381_2)⟩ (fun hHeld=>?_)
          clear hK K
          refine norm_ (a':=?_) ?_ ?_
          rotate_left
          ·show Act.put _ (some 39) _ = _
           simp only [Act.put,List.setIfInBounds_toArray,List.set_cons_zero,List.set_cons_succ,i64_w,i32_w]
           rfl
          refine pure_ (i:=23) (N:=some 40) (v:=?_) (a':=?_) #[true,true,true,true,true,true,true,true,true,true,true,true,true,true,true,true,true,true,true,true,true,true,true,true,false,false,false,false,false,false,false,false,false,false,false,false,false,false,false] rfl rfl (any_of HT_.out (by kernel_rfl)) (fun _ _ _ h=>h) (Or.inl ⟨by rfl,?_⟩) ?_ ?_
          rotate_left
          ·intro w'
           go_simp
           with_reducible rfl
          rotate_left
          ·simp only [Act.put,List.setIfInBounds_toArray,List.set_cons_zero,List.set_cons_succ,i64_w,i32_w]
           rfl
          refine pure_ (i:=24) (N:=some 41) (v:=?_) (a':=?_) #[true,true,true,true,true,true,true,true,true,true,true,true,true,true,true,true,true,true,true,true,true,true,true,true,true,false,false,false,false,false,false,false,false,false,false,false,false,false,false] rfl rfl (any_of HT_.out (by kernel_rfl)) (fun _ _ _ h=>h) (Or.inl ⟨by rfl,?_⟩) ?_ ?_
          rotate_left
          ·intro w'
           go_simp
           with_reducible rfl
          rotate_left
          ·simp only [Act.put,List.setIfInBounds_toArray,List.set_cons_zero,List.set_cons_succ,i64_w,i32_w]
           rfl
          refine pure_ (i:=25) (N:=some 42) (v:=?_) (a':=?_) #[true,true,true,true,true,true,true,true,true,true,true,true,true,true,true,true,true,true,true,true,true,true,true,true,true,true,false,false,false,false,false,false,false,false,false,false,false,false,false] rfl rfl (any_of HT_.out (by kernel_rfl)) (fun _ _ _ h=>h) (Or.inl ⟨by rfl,?_⟩) ?_ ?_
          rotate_left
          ·intro w'
           go_simp
           with_reducible rfl
          rotate_left
          ·simp only [Act.put,List.setIfInBounds_toArray,List.set_cons_zero,List.set_cons_succ,i64_w,i32_w]
           rfl
          refine pure_ (i:=26) (N:=some 43) (v:=?_) (a':=?_) #[true,true,true,true,true,true,true,true,true,true,true,true,true,true,true,true,true,true,true,true,true,true,true,true,true,true,true,false,false,false,false,false,false,false,false,false,false,false,false] rfl rfl (any_of HT_.out (by kernel_rfl)) (fun _ _ _ h=>h) (Or.inl ⟨by rfl,?_⟩) ?_ ?_
          rotate_left
          ·intro w'
           go_simp
           with_reducible rfl
          rotate_left
          ·simp only [Act.put,List.setIfInBounds_toArray,List.set_cons_zero,List.set_cons_succ,i64_w,i32_w]
           rfl
          refine pure_ (i:=27) (N:=some 44) (v:=?_) (a':=?_) #[true,true,true,true,true,true,true,true,true,true,true,true,true,true,true,true,true,true,true,true,true,true,true,true,true,true,true,true,false,false,false,false,false,false,false,false,false,false,false] rfl rfl (any_of HT_.out (by kernel_rfl)) (fun _ _ _ h=>h) (Or.inl ⟨by rfl,?_⟩) ?_ ?_
          rotate_left
          ·intro w'
           go_simp
           with_reducible rfl
          rotate_left
          ·simp only [Act.put,List.setIfInBounds_toArray,List.set_cons_zero,List.set_cons_succ,i64_w,i32_w]
           rfl
          refine pure_ (i:=28) (N:=some 45) (v:=?_) (a':=?_) #[true,true,true,true,true,true,true,true,true,true,true,true,true,true,true,true,true,true,true,true,true,true,true,true,true,true,true,true,true,false,false,false,false,false,false,false,false,false,false] rfl rfl (any_of HT_.out (by kernel_rfl)) (fun _ _ _ h=>h) (Or.inl ⟨by rfl,?_⟩) ?_ ?_
          rotate_left
          ·intro w'
           go_simp
           with_reducible rfl
          rotate_left
          ·simp only [Act.put,List.setIfInBounds_toArray,List.set_cons_zero,List.set_cons_succ,i64_w,i32_w]
           rfl
          refine pure_ (i:=29) (N:=some 46) (v:=?_) (a':=?_) #[true,true,true,true,true,true,true,true,true,true,true,true,true,true,true,true,true,true,true,true,true,true,true,true,true,true,true,true,true,true,false,false,false,false,false,false,false,false,false] rfl rfl (any_of HT_.out (by kernel_rfl)) (fun _ _ _ h=>h) (Or.inl ⟨by rfl,?_⟩) ?_ ?_
          rotate_left
          ·intro w'
           go_simp
           with_reducible rfl
          rotate_left
          ·simp only [Act.put,List.setIfInBounds_toArray,List.set_cons_zero,List.set_cons_succ,i64_w,i32_w]
           rfl
          refine pure_ (i:=31) (N:=some 48) (v:=?_) (a':=?_) #[true,true,true,true,true,true,true,true,true,true,true,true,true,true,true,true,true,true,true,true,true,true,true,true,true,true,true,true,true,true,false,true,false,false,false,false,false,false,false] rfl rfl (any_of HT_.out (by kernel_rfl)) (fun _ _ _ h=>h) (Or.inl ⟨by rfl,?_⟩) ?_ ?_
          rotate_left
          ·intro w'
           go_simp
           with_reducible rfl
          rotate_left
          ·simp only [Act.put,List.setIfInBounds_toArray,List.set_cons_zero,List.set_cons_succ,i64_w,i32_w]
           rfl
          refine pure_ (i:=32) (N:=some 49) (v:=?_) (a':=?_) #[true,true,true,true,true,true,true,true,true,true,true,true,true,true,true,true,true,true,true,true,true,true,true,true,true,true,true,true,true,true,false,true,true,false,false,false,false,false,false] rfl rfl (any_of HT_.out (by kernel_rfl)) (fun _ _ _ h=>h) (Or.inl ⟨by rfl,?_⟩) ?_ ?_
          rotate_left
          ·intro w'
           go_simp
           with_reducible rfl
          rotate_left
          ·simp only [Act.put,List.setIfInBounds_toArray,List.set_cons_zero,List.set_cons_succ,i64_w,i32_w]
           rfl
          refine pure_ (i:=33) (N:=some 50) (v:=?_) (a':=?_) #[true,true,true,true,true,true,true,true,true,true,true,true,true,true,true,true,true,true,true,true,true,true,true,true,true,true,true,true,true,true,false,true,true,true,false,false,false,false,false] rfl rfl (any_of HT_.out (by kernel_rfl)) (fun _ _ _ h=>h) (Or.inl ⟨by rfl,?_⟩) ?_ ?_
          rotate_left
          ·intro w'
           go_simp
           with_reducible rfl
          rotate_left
          ·simp only [Act.put,List.setIfInBounds_toArray,List.set_cons_zero,List.set_cons_succ,i64_w,i32_w]
           rfl
          refine pure_ (i:=34) (N:=some 51) (v:=?_) (a':=?_) #[true,true,true,true,true,true,true,true,true,true,true,true,true,true,true,true,true,true,true,true,true,true,true,true,true,true,true,true,true,true,false,true,true,true,true,false,false,false,false] rfl rfl (any_of HT_.out (by kernel_rfl)) (fun _ _ _ h=>h) (Or.inl ⟨by rfl,?_⟩) ?_ ?_
          rotate_left
          ·intro w'
           go_simp
           with_reducible rfl
          rotate_left
          ·simp only [Act.put,List.setIfInBounds_toArray,List.set_cons_zero,List.set_cons_succ,i64_w,i32_w]
           rfl
          refine take_ (i:=30) (N:=some 47) (v:=?_) (a':=?_) #[true,true,true,true,true,true,true,true,true,true,true,true,true,true,true,true,true,true,true,true,true,true,true,true,true,true,true,true,true,true,true,true,true,true,true,false,false,false,false] rfl rfl (take_ofW HT_.out HW_.out (by kernel_rfl)) (fun _ _ _ h=>h) (Or.inl ⟨by rfl,?_⟩) hHeld ?_ ?_
          rotate_left
          ·rintro w' ⟨s0,s1,s2,s3,s4,s5,s6,s7,s8,s9,s10,s11,s12,s13,s14,s15,s16,s17⟩
           go_simp
           with_reducible rfl
          rotate_left
          ·simp only [Act.put,List.setIfInBounds_toArray,List.set_cons_zero,List.set_cons_succ,i64_w,i32_w]
           rfl
          refine take_ (i:=35) (N:=some 52) (v:=?_) (a':=?_) #[true,true,true,true,true,true,true,true,true,true,true,true,true,true,true,true,true,true,true,true,true,true,true,true,true,true,true,true,true,true,true,true,true,true,true,true,false,false,false] rfl rfl (take_ofW HT_.out HW_.out (by kernel_rfl)) (fun _ _ _ h=>h) (Or.inl ⟨by rfl,?_⟩) hHeld ?_ ?_
          rotate_left
          ·rintro w' ⟨s0,s1,s2,s3,s4,s5,s6,s7,s8,s9,s10,s11,s12,s13,s14,s15,s16,s17⟩
           go_simp
           with_reducible rfl
          rotate_left
          ·simp only [Act.put,List.setIfInBounds_toArray,List.set_cons_zero,List.set_cons_succ,i64_w,i32_w]
           rfl
          refine one_ (i:=36) (N:=some 53) #[true,true,true,true,true,true,true,true,true,true,true,true,true,true,true,true,true,true,true,true,true,true,true,true,true,true,true,true,true,true,true,true,true,true,true,true,true,false,false] rfl rfl (one_of HT_.out (by kernel_rfl)) (by decide) (fun K hK=>?_)
          refine goes_ Tryz.func47 (by kernel_rfl) rfl #[.slice A375_2 ((rd_T82 l0 x5_1).f2).length c375_2,.slice A376_2 ((rd_T82 l1 x5_1).f2).length c376_2] (by rfl) rfl rfl (by (try simp only [List.map_toArray,List.map_cons,List.map_nil]);first | done | rfl | (simp only [List.length_drop,List.length_take];rfl)) ?_
          with_reducible refine (r07_SameAll.calls k1 _ _ ((rd_T82 l0 x5_1).f2) _ _ ((rd_T82 l1 x5_1).f2) true _ ?side1 ?side2 ?side3 ?side4 A10.out).mono ?_
          (case side1=>repeat (first | exact (Kd.C_below HR380_2.out HB.out) | (with_reducible refine Kd.C_alloc ?_ _) | (with_reducible refine Kd.C_drewN ?_ _) | (with_reducible refine Kd.C_drew ?_)))
          (case side2=>exact HC380_2.out)
          (case side3=>repeat (first | exact (Kd.C_below HR381_2.out HB.out) | (with_reducible refine Kd.C_alloc ?_ _) | (with_reducible refine Kd.C_drewN ?_ _) | (with_reducible refine Kd.C_drew ?_)))
          (case side4=>exact HC381_2.out)
          rintro e w14 ⟨rfl,hb⟩
          refine ⟨_,rfl,?_⟩
          have n0_:=As.mk (bS (by repeat (first | (with_reducible first | exact HB.out | apply bA | apply bN | apply bD) | exact HB.out)) hb)
          clear HB
          have HB:=n0_
          clear n0_
          (try clear hb)
          (try clear hb2)
          (try clear hk)
          (try clear hi)
          refine hK.out _ _ ⟨((HB.out.cell (World.block_lt_of_cell? w _ hw375_0)).trans hw375_0),((HB.out.cell (World.block_lt_of_cell? w _ hw375_1)).trans hw375_1),((HB.out.cell (World.block_lt_of_cell? w _ hw375_2)).trans hw375_2),((HB.out.cell (World.block_lt_of_cell? w _ hw376_0)).trans hw376_0),((HB.out.cell (World.block_lt_of_cell? w _ hw376_1)).trans hw376_1),((HB.out.cell (World.block_lt_of_cell? w _ hw376_2)).trans hw376_2),((HB.out.cell (World.block_lt_of_cell? w _ hw377_0)).trans hw377_0),((HB.out.cell (World.block_lt_of_cell? w _ hw377_1)).trans hw377_1),((HB.out.cell (World.block_lt_of_cell? w _ hw377_2)).trans hw377_2),((HB.out.cell (World.block_lt_of_cell? w _ hw378_0)).trans hw378_0),((HB.out.cell (World.block_lt_of_cell? w _ hw378_1)).trans hw378_1),((HB.out.cell (World.block_lt_of_cell? w _ hw378_2)).trans hw378_2),((HB.out.cell (World.block_lt_of_cell? w _ hw380_0)).trans hw380_0),((HB.out.cell (World.block_lt_of_cell? w _ hw380_1)).trans hw380_1),((HB.out.cell (World.block_lt_of_cell? w _ hw380_2)).trans hw380_2),((HB.out.cell (World.block_lt_of_cell? w _ hw381_0)).trans hw381_0),((HB.out.cell (World.block_lt_of_cell? w _ hw381_1)).trans hw381_1),((HB.out.cell (World.block_lt_of_cell? w _ hw381_2)).trans hw381_2)⟩ (fun hHeld=>?_)
          clear hK K
          refine norm_ (a':=?_) ?_ ?_
          rotate_left
          ·show Act.put _ (some 53) _ = _
           simp only [Act.put,List.setIfInBounds_toArray,List.set_cons_zero,List.set_cons_succ,i64_w,i32_w]
           rfl
          refine pure_ (i:=37) (N:=some 54) (v:=?_) (a':=?_) #[true,true,true,true,true,true,true,true,true,true,true,true,true,true,true,true,true,true,true,true,true,true,true,true,true,true,true,true,true,true,true,true,true,true,true,true,true,true,false] rfl rfl (any_of HT_.out (by kernel_rfl)) (fun _ _ _ h=>h) (Or.inl ⟨by rfl,?_⟩) ?_ ?_
          rotate_left
          ·intro w'
           go_simp
           with_reducible rfl
          rotate_left
          ·simp only [Act.put,List.setIfInBounds_toArray,List.set_cons_zero,List.set_cons_succ,i64_w,i32_w]
           rfl
          refine pure_ (i:=38) (N:=some 55) (v:=?_) (a':=?_) #[true,true,true,true,true,true,true,true,true,true,true,true,true,true,true,true,true,true,true,true,true,true,true,true,true,true,true,true,true,true,true,true,true,true,true,true,true,true,true] rfl rfl (any_of HT_.out (by kernel_rfl)) (fun _ _ _ h=>h) (Or.inl ⟨by rfl,?_⟩) ?_ ?_
          rotate_left
          ·intro w'
           go_simp
           with_reducible rfl
          rotate_left
          ·simp only [Act.put,List.setIfInBounds_toArray,List.set_cons_zero,List.set_cons_succ,i64_w,i32_w]
           rfl
          refine done_ (done_of HT_.out (by kernel_rfl)) ?_
          try go_wp2
          go_roundg k1
          case measure=>have:=HK1.out;omega
          case rel=>exact ⟨(wrap64 (x5_1 + 1)),(by first | rfl | (simp;done) | (simp [*];done)),H',⟨by have:=HK1.out;omega⟩,⟨by repeat (first | (with_reducible first | exact HB.out | apply bA | apply bN | apply bD) | exact HB.out)⟩⟩
         ·replace c11:=Bool.eq_false_iff.mpr c11
          subst c11
          have H1 : (some false) = some r:=by rw [if_neg (show ¬ (false = true) by decide)] at H;exact H
          clear H
          have H:=H1
          clear H1
          obtain rfl:=Option.some.inj H
          try go_wp2
          have n0_:=As.mk (bD HB.out)
          clear HB
          have HB:=n0_
          clear n0_
          have p375 : 0 ≤ (x5_1 : Int):=of_decide_eq_true (by first | (with_reducible assumption) | assumption)
          have q375 : x5_1 < (l0.length : Int):=of_decide_eq_true (by first | (with_reducible assumption) | assumption)
          obtain ⟨ad375,A375_1,c375_1,A375_2,c375_2,e375,hx375_0,hx375_1,hx375_2,hl375_1,hi375_1,hl375_2,hi375_2⟩:=at_T82 HR0.out x5_1 p375 q375
          have hw375_2:=hx375_2
          have hw375_1:=hx375_1
          have hw375_0:=hx375_0
          cases e375
          replace hx375_0:=(HB.out.cell (World.block_lt_of_cell? w _ hx375_0)).trans hx375_0
          replace hx375_1:=(HB.out.cell (World.block_lt_of_cell? w _ hx375_1)).trans hx375_1
          replace hx375_2:=(HB.out.cell (World.block_lt_of_cell? w _ hx375_2)).trans hx375_2
          have HR375_1:=As.mk hi375_1
          have HC375_1:=As.mk hl375_1
          clear hi375_1 hl375_1
          have HR375_2:=As.mk hi375_2
          have HC375_2:=As.mk hl375_2
          clear hi375_2 hl375_2
          replace p375:=eq_true p375
          replace q375:=eq_true q375
          have p376 : 0 ≤ (x5_1 : Int):=of_decide_eq_true (by first | (with_reducible assumption) | assumption)
          have q376 : x5_1 < (l1.length : Int):=of_decide_eq_true (by first | (with_reducible assumption) | assumption)
          obtain ⟨ad376,A376_1,c376_1,A376_2,c376_2,e376,hx376_0,hx376_1,hx376_2,hl376_1,hi376_1,hl376_2,hi376_2⟩:=at_T82 HR1.out x5_1 p376 q376
          have hw376_2:=hx376_2
          have hw376_1:=hx376_1
          have hw376_0:=hx376_0
          cases e376
          replace hx376_0:=(HB.out.cell (World.block_lt_of_cell? w _ hx376_0)).trans hx376_0
          replace hx376_1:=(HB.out.cell (World.block_lt_of_cell? w _ hx376_1)).trans hx376_1
          replace hx376_2:=(HB.out.cell (World.block_lt_of_cell? w _ hx376_2)).trans hx376_2
          have HR376_1:=As.mk hi376_1
          have HC376_1:=As.mk hl376_1
          clear hi376_1 hl376_1
          have HR376_2:=As.mk hi376_2
          have HC376_2:=As.mk hl376_2
          clear hi376_2 hl376_2
          replace p376:=eq_true p376
          replace q376:=eq_true q376
          have p377 : 0 ≤ (x5_1 : Int):=of_decide_eq_true (by first | (with_reducible assumption) | assumption)
          have q377 : x5_1 < (l0.length : Int):=of_decide_eq_true (by first | (with_reducible assumption) | assumption)
          obtain ⟨ad377,A377_1,c377_1,A377_2,c377_2,e377,hx377_0,hx377_1,hx377_2,hl377_1,hi377_1,hl377_2,hi377_2⟩:=at_T82 HR0.out x5_1 p377 q377
          have hw377_2:=hx377_2
          have hw377_1:=hx377_1
          have hw377_0:=hx377_0
          obtain rfl : ad375 = ad377:=(by injection e377)
          replace hx377_0:=(HB.out.cell (World.block_lt_of_cell? w _ hx377_0)).trans hx377_0
          replace hx377_1:=(HB.out.cell (World.block_lt_of_cell? w _ hx377_1)).trans hx377_1
          replace hx377_2:=(HB.out.cell (World.block_lt_of_cell? w _ hx377_2)).trans hx377_2
          have HR377_1:=As.mk hi377_1
          have HC377_1:=As.mk hl377_1
          clear hi377_1 hl377_1
          have HR377_2:=As.mk hi377_2
          have HC377_2:=As.mk hl377_2
          clear hi377_2 hl377_2
          replace p377:=eq_true p377
          replace q377:=eq_true q377
          have ea_:=Option.some.inj (hx375_1.symm.trans hx377_1)
          injection ea_ with ea_ en_ ec_
          subst ea_
          subst ec_
          clear en_
          have ea_:=Option.some.inj (hx375_2.symm.trans hx377_2)
          injection ea_ with ea_ en_ ec_
          subst ea_
          subst ec_
          clear en_
          have p378 : 0 ≤ (x5_1 : Int):=of_decide_eq_true (by first | (with_reducible assumption) | assumption)
          have q378 : x5_1 < (l1.length : Int):=of_decide_eq_true (by first | (with_reducible assumption) | assumption)
          obtain ⟨ad378,A378_1,c378_1,A378_2,c378_2,e378,hx378_0,hx378_1,hx378_2,hl378_1,hi378_1,hl378_2,hi378_2⟩:=at_T82 HR1.out x5_1 p378 q378
          have hw378_2:=hx378_2
          have hw378_1:=hx378_1
          have hw378_0:=hx378_0
          obtain rfl : ad376 = ad378:=(by injection e378)
          replace hx378_0:=(HB.out.cell (World.block_lt_of_cell? w _ hx378_0)).trans hx378_0
          replace hx378_1:=(HB.out.cell (World.block_lt_of_cell? w _ hx378_1)).trans hx378_1
          replace hx378_2:=(HB.out.cell (World.block_lt_of_cell? w _ hx378_2)).trans hx378_2
          have HR378_1:=As.mk hi378_1
          have HC378_1:=As.mk hl378_1
          clear hi378_1 hl378_1
          have HR378_2:=As.mk hi378_2
          have HC378_2:=As.mk hl378_2
          clear hi378_2 hl378_2
          replace p378:=eq_true p378
          replace q378:=eq_true q378
          have ea_:=Option.some.inj (hx376_1.symm.trans hx378_1)
          injection ea_ with ea_ en_ ec_
          subst ea_
          subst ec_
          clear en_
          have ea_:=Option.some.inj (hx376_2.symm.trans hx378_2)
          injection ea_ with ea_ en_ ec_
          subst ea_
          subst ec_
          clear en_
          have p380 : 0 ≤ (x5_1 : Int):=of_decide_eq_true (by first | (with_reducible assumption) | assumption)
          have q380 : x5_1 < (l0.length : Int):=of_decide_eq_true (by first | (with_reducible assumption) | assumption)
          obtain ⟨ad380,A380_1,c380_1,A380_2,c380_2,e380,hx380_0,hx380_1,hx380_2,hl380_1,hi380_1,hl380_2,hi380_2⟩:=at_T82 HR0.out x5_1 p380 q380
          have hw380_2:=hx380_2
          have hw380_1:=hx380_1
          have hw380_0:=hx380_0
          obtain rfl : ad375 = ad380:=(by injection e380)
          replace hx380_0:=(HB.out.cell (World.block_lt_of_cell? w _ hx380_0)).trans hx380_0
          replace hx380_1:=(HB.out.cell (World.block_lt_of_cell? w _ hx380_1)).trans hx380_1
          replace hx380_2:=(HB.out.cell (World.block_lt_of_cell? w _ hx380_2)).trans hx380_2
          have z380_:=Option.some.inj (hx375_2.symm.trans hx380_2);injection z380_ with za380_ zb380_ zc380_;clear zb380_;subst za380_;subst zc380_
          have HR380_1:=As.mk hi380_1
          have HC380_1:=As.mk hl380_1
          clear hi380_1 hl380_1
          have HR380_2:=As.mk hi380_2
          have HC380_2:=As.mk hl380_2
          clear hi380_2 hl380_2
          replace p380:=eq_true p380
          replace q380:=eq_true q380
          have p381 : 0 ≤ (x5_1 : Int):=of_decide_eq_true (by first | (with_reducible assumption) | assumption)
          have q381 : x5_1 < (l1.length : Int):=of_decide_eq_true (by first | (with_reducible assumption) | assumption)
          obtain ⟨ad381,A381_1,c381_1,A381_2,c381_2,e381,hx381_0,hx381_1,hx381_2,hl381_1,hi381_1,hl381_2,hi381_2⟩:=at_T82 HR1.out x5_1 p381 q381
          have hw381_2:=hx381_2
          have hw381_1:=hx381_1
          have hw381_0:=hx381_0
          obtain rfl : ad376 = ad381:=(by injection e381)
          replace hx381_0:=(HB.out.cell (World.block_lt_of_cell? w _ hx381_0)).trans hx381_0
          replace hx381_1:=(HB.out.cell (World.block_lt_of_cell? w _ hx381_1)).trans hx381_1
          replace hx381_2:=(HB.out.cell (World.block_lt_of_cell? w _ hx381_2)).trans hx381_2
          have z381_:=Option.some.inj (hx376_2.symm.trans hx381_2);injection z381_ with za381_ zb381_ zc381_;clear zb381_;subst za381_;subst zc381_
          have HR381_1:=As.mk hi381_1
          have HC381_1:=As.mk hl381_1
          clear hi381_1 hl381_1
          have HR381_2:=As.mk hi381_2
          have HC381_2:=As.mk hl381_2
          clear hi381_2 hl381_2
          replace p381:=eq_true p381
          replace q381:=eq_true q381
          refine start_ (n:=39) (S:=fun w'=>w'.cell? (ad375.add ((x5_1).toNat * 3)) = some (.string ((rd_T82 l0 x5_1).f0)) ∧ w'.cell? ⟨(ad375.add ((x5_1).toNat * 3)).block,(ad375.add ((x5_1).toNat * 3)).off + 1,none⟩ = some (.slice A375_1 ((rd_T82 l0 x5_1).f1).length c375_1) ∧ w'.cell? ⟨(ad375.add ((x5_1).toNat * 3)).block,(ad375.add ((x5_1).toNat * 3)).off + 2,none⟩ = some (.slice A375_2 ((rd_T82 l0 x5_1).f2).length c375_2) ∧ w'.cell? (ad376.add ((x5_1).toNat * 3)) = some (.string ((rd_T82 l1 x5_1).f0)) ∧ w'.cell? ⟨(ad376.add ((x5_1).toNat * 3)).block,(ad376.add ((x5_1).toNat * 3)).off + 1,none⟩ = some (.slice A376_1 ((rd_T82 l1 x5_1).f1).length c376_1) ∧ w'.cell? ⟨(ad376.add ((x5_1).toNat * 3)).block,(ad376.add ((x5_1).toNat * 3)).off + 2,none⟩ = some (.slice A376_2 ((rd_T82 l1 x5_1).f2).length c376_2) ∧ w'.cell? (ad375.add ((x5_1).toNat * 3)) = some (.string ((rd_T82 l0 x5_1).f0)) ∧ w'.cell? ⟨(ad375.add ((x5_1).toNat * 3)).block,(ad375.add ((x5_1).toNat * 3)).off + 1,none⟩ = some (.slice A375_1 ((rd_T82 l0 x5_1).f1).length c375_1) ∧ w'.cell? ⟨(ad375.add ((x5_1).toNat * 3)).block,(ad375.add ((x5_1).toNat * 3)).off + 2,none⟩ = some (.slice A375_2 ((rd_T82 l0 x5_1).f2).length c375_2) ∧ w'.cell? (ad376.add ((x5_1).toNat * 3)) = some (.string ((rd_T82 l1 x5_1).f0)) ∧ w'.cell? ⟨(ad376.add ((x5_1).toNat * 3)).block,(ad376.add ((x5_1).toNat * 3)).off + 1,none⟩ = some (.slice A376_1 ((rd_T82 l1 x5_1).f1).length c376_1) ∧ w'.cell? ⟨(ad376.add ((x5_1).toNat * 3)).block,(ad376.add ((x5_1).toNat * 3)).off + 2,none⟩ = some (.slice A376_2 ((rd_T82 l1 x5_1).f2).length c376_2) ∧ w'.cell? (ad375.add ((x5_1).toNat * 3)) = some (.string ((rd_T82 l0 x5_1).f0)) ∧ w'.cell? ⟨(ad375.add ((x5_1).toNat * 3)).block,(ad375.add ((x5_1).toNat * 3)).off + 1,none⟩ = some (.slice A380_1 ((rd_T82 l0 x5_1).f1).length c380_1) ∧ w'.cell? ⟨(ad375.add ((x5_1).toNat * 3)).block,(ad375.add ((x5_1).toNat * 3)).off + 2,none⟩ = some (.slice A375_2 ((rd_T82 l0 x5_1).f2).length c375_2) ∧ w'.cell? (ad376.add ((x5_1).toNat * 3)) = some (.string ((rd_T82 l1 x5_1).f0)) ∧ w'.cell? ⟨(ad376.add ((x5_1).toNat * 3)).block,(ad376.add ((x5_1).toNat * 3)).off + 1,none⟩ = some (.slice A381_1 ((rd_T82 l1 x5_1).f1).length c381_1) ∧ w'.cell? ⟨(ad376.add ((x5_1).toNat * 3)).block,(ad376.add ((x5_1).toNat * 3)).off + 2,none⟩ = some (.slice A376_2 ((rd_T82 l1 x5_1).f2).length c376_2)) (ds:=[]) #[false,false,false,false,false,false,false,false,false,false,false,false,false,false,false,false,false,false,false,false,false,false,false,false,false,false,false,false,false,false,false,false,false,false,false,false,false,false,false] (by kernel_rfl) rfl rfl ⟨((HB.out.cell (World.block_lt_of_cell? w _ hw375_0)).trans hw375_0),((HB.out.cell (World.block_lt_of_cell? w _ hw375_1)).trans hw375_1),((HB.out.cell (World.block_lt_of_cell? w _ hw375_2)).trans hw375_2),((HB.out.cell (World.block_lt_of_cell? w _ hw376_0)).trans hw376_0),((HB.out.cell (World.block_lt_of_cell? w _ hw376_1)).trans hw376_1),((HB.out.cell (World.block_lt_of_cell? w _ hw376_2)).trans hw376_2),((HB.out.cell (World.block_lt_of_cell? w _ hw377_0)).trans hw377_0),((HB.out.cell (World.block_lt_of_cell? w _ hw377_1)).trans hw377_1),((HB.out.cell (World.block_lt_of_cell? w _ hw377_2)).trans hw377_2),((HB.out.cell (World.block_lt_of_cell? w _ hw378_0)).trans hw378_0),((HB.out.cell (World.block_lt_of_cell? w _ hw378_1)).trans hw378_1),((HB.out.cell (World.block_lt_of_cell? w _ hw378_2)).trans hw378_2),((HB.out.cell (World.block_lt_of_cell? w _ hw380_0)).trans hw380_0),((HB.out.cell (World.block_lt_of_cell? w _ hw380_1)).trans hw380_1),((HB.out.cell (World.block_lt_of_cell? w _ hw380_2)).trans hw380_2),((HB.out.cell (World.block_lt_of_cell? w _ hw381_0)).trans hw381_0),((HB.out.cell (World.block_lt_of_cell? w _ hw381_1)).trans hw381_1),((HB.out.cell (World.block_lt_of_cell? w _ hw381_2)).trans hw381_2)⟩ (fun hHeld=>?_);refine with_tabW r09_Same.tab6 r09_Same.bits6 (fun HT_ HW_=>?_)
          generalize wr.drew = w15 at HB HR375_1 HR375_2 HR376_1 HR376_2 HR377_1 HR377_2 HR378_1 HR378_2 HR380_1 HR380_2 HR381_1 HR381_2 hx375_0 hx375_1 hx375_2 hx376_0 hx376_1 hx376_2 hx377_0 hx377_1 hx377_2 hx378_0 hx378_1 hx378_2 hx380_0 hx380_1 hx380_2 hx381_0 hx381_1 hx381_2 hHeld ⊢
          refine pure_ (i:=0) (N:=some 17) (v:=?_) (a':=?_) #[true,false,false,false,false,false,false,false,false,false,false,false,false,false,false,false,false,false,false,false,false,false,false,false,false,false,false,false,false,false,false,false,false,false,false,false,false,false,false] rfl rfl (any_of HT_.out (by kernel_rfl)) (fun _ _ _ h=>h) (Or.inl ⟨by rfl,?_⟩) ?_ ?_
          rotate_left
          ·intro w'
           go_simp
           with_reducible rfl
          rotate_left
          ·simp only [Act.put,List.setIfInBounds_toArray,List.set_cons_zero,List.set_cons_succ,i64_w,i32_w]
           rfl
          refine pure_ (i:=1) (N:=some 18) (v:=?_) (a':=?_) #[true,true,false,false,false,false,false,false,false,false,false,false,false,false,false,false,false,false,false,false,false,false,false,false,false,false,false,false,false,false,false,false,false,false,false,false,false,false,false] rfl rfl (any_of HT_.out (by kernel_rfl)) (fun _ _ _ h=>h) (Or.inl ⟨by rfl,?_⟩) ?_ ?_
          rotate_left
          ·intro w'
           go_simp
           with_reducible rfl
          rotate_left
          ·simp only [Act.put,List.setIfInBounds_toArray,List.set_cons_zero,List.set_cons_succ,i64_w,i32_w]
           rfl
          refine pure_ (i:=2) (N:=some 19) (v:=?_) (a':=?_) #[true,true,true,false,false,false,false,false,false,false,false,false,false,false,false,false,false,false,false,false,false,false,false,false,false,false,false,false,false,false,false,false,false,false,false,false,false,false,false] rfl rfl (any_of HT_.out (by kernel_rfl)) (fun _ _ _ h=>h) (Or.inl ⟨by rfl,?_⟩) ?_ ?_
          rotate_left
          ·intro w'
           go_simp
           with_reducible rfl
          rotate_left
          ·simp only [Act.put,List.setIfInBounds_toArray,List.set_cons_zero,List.set_cons_succ,i64_w,i32_w]
           rfl
          refine pure_ (i:=3) (N:=some 20) (v:=?_) (a':=?_) #[true,true,true,true,false,false,false,false,false,false,false,false,false,false,false,false,false,false,false,false,false,false,false,false,false,false,false,false,false,false,false,false,false,false,false,false,false,false,false] rfl rfl (any_of HT_.out (by kernel_rfl)) (fun _ _ _ h=>h) (Or.inl ⟨by rfl,?_⟩) ?_ ?_
          rotate_left
          ·intro w'
           go_simp
           with_reducible rfl
          rotate_left
          ·simp only [Act.put,List.setIfInBounds_toArray,List.set_cons_zero,List.set_cons_succ,i64_w,i32_w]
           rfl
          refine pure_ (i:=5) (N:=some 22) (v:=?_) (a':=?_) #[true,true,true,true,false,true,false,false,false,false,false,false,false,false,false,false,false,false,false,false,false,false,false,false,false,false,false,false,false,false,false,false,false,false,false,false,false,false,false] rfl rfl (any_of HT_.out (by kernel_rfl)) (fun _ _ _ h=>h) (Or.inl ⟨by rfl,?_⟩) ?_ ?_
          rotate_left
          ·intro w'
           go_simp
           with_reducible rfl
          rotate_left
          ·simp only [Act.put,List.setIfInBounds_toArray,List.set_cons_zero,List.set_cons_succ,i64_w,i32_w]
           rfl
          refine pure_ (i:=6) (N:=some 23) (v:=?_) (a':=?_) #[true,true,true,true,false,true,true,false,false,false,false,false,false,false,false,false,false,false,false,false,false,false,false,false,false,false,false,false,false,false,false,false,false,false,false,false,false,false,false] rfl rfl (any_of HT_.out (by kernel_rfl)) (fun _ _ _ h=>h) (Or.inl ⟨by rfl,?_⟩) ?_ ?_
          rotate_left
          ·intro w'
           go_simp
           with_reducible rfl
          rotate_left
          ·simp only [Act.put,List.setIfInBounds_toArray,List.set_cons_zero,List.set_cons_succ,i64_w,i32_w]
           rfl
          refine pure_ (i:=7) (N:=some 24) (v:=?_) (a':=?_) #[true,true,true,true,false,true,true,true,false,false,false,false,false,false,false,false,false,false,false,false,false,false,false,false,false,false,false,false,false,false,false,false,false,false,false,false,false,false,false] rfl rfl (any_of HT_.out (by kernel_rfl)) (fun _ _ _ h=>h) (Or.inl ⟨by rfl,?_⟩) ?_ ?_
          rotate_left
          ·intro w'
           go_simp
           with_reducible rfl
          rotate_left
          ·simp only [Act.put,List.setIfInBounds_toArray,List.set_cons_zero,List.set_cons_succ,i64_w,i32_w]
           rfl
          refine pure_ (i:=8) (N:=some 25) (v:=?_) (a':=?_) #[true,true,true,true,false,true,true,true,true,false,false,false,false,false,false,false,false,false,false,false,false,false,false,false,false,false,false,false,false,false,false,false,false,false,false,false,false,false,false] rfl rfl (any_of HT_.out (by kernel_rfl)) (fun _ _ _ h=>h) (Or.inl ⟨by rfl,?_⟩) ?_ ?_
          rotate_left
          ·intro w'
           go_simp
           with_reducible rfl
          rotate_left
          ·simp only [Act.put,List.setIfInBounds_toArray,List.set_cons_zero,List.set_cons_succ,i64_w,i32_w]
           rfl
          refine take_ (i:=4) (N:=some 21) (v:=?_) (a':=?_) #[true,true,true,true,true,true,true,true,true,false,false,false,false,false,false,false,false,false,false,false,false,false,false,false,false,false,false,false,false,false,false,false,false,false,false,false,false,false,false] rfl rfl (take_ofW HT_.out HW_.out (by kernel_rfl)) (fun _ _ _ h=>h) (Or.inl ⟨by rfl,?_⟩) hHeld ?_ ?_
          rotate_left
          ·rintro w' ⟨s0,s1,s2,s3,s4,s5,s6,s7,s8,s9,s10,s11,s12,s13,s14,s15,s16,s17⟩
           go_simp
           with_reducible rfl
          rotate_left
          ·simp only [Act.put,List.setIfInBounds_toArray,List.set_cons_zero,List.set_cons_succ,i64_w,i32_w]
           rfl
          refine take_ (i:=9) (N:=some 26) (v:=?_) (a':=?_) #[true,true,true,true,true,true,true,true,true,true,false,false,false,false,false,false,false,false,false,false,false,false,false,false,false,false,false,false,false,false,false,false,false,false,false,false,false,false,false] rfl rfl (take_ofW HT_.out HW_.out (by kernel_rfl)) (fun _ _ _ h=>h) (Or.inl ⟨by rfl,?_⟩) hHeld ?_ ?_
          rotate_left
          ·rintro w' ⟨s0,s1,s2,s3,s4,s5,s6,s7,s8,s9,s10,s11,s12,s13,s14,s15,s16,s17⟩
           go_simp
           with_reducible rfl
          rotate_left
          ·simp only [Act.put,List.setIfInBounds_toArray,List.set_cons_zero,List.set_cons_succ,i64_w,i32_w]
           rfl
          refine pure_ (i:=10) (N:=some 27) (v:=?_) (a':=?_) #[true,true,true,true,true,true,true,true,true,true,true,false,false,false,false,false,false,false,false,false,false,false,false,false,false,false,false,false,false,false,false,false,false,false,false,false,false,false,false] rfl rfl (any_of HT_.out (by kernel_rfl)) (fun _ _ _ h=>h) (Or.inl ⟨by rfl,?_⟩) ?_ ?_
          rotate_left
          ·intro w'
           go_simp
           with_reducible rfl
          rotate_left
          ·simp only [Act.put,List.setIfInBounds_toArray,List.set_cons_zero,List.set_cons_succ,i64_w,i32_w]
           rfl
          refine pure_ (i:=11) (N:=some 28) (v:=?_) (a':=?_) #[true,true,true,true,true,true,true,true,true,true,true,true,false,false,false,false,false,false,false,false,false,false,false,false,false,false,false,false,false,false,false,false,false,false,false,false,false,false,false] rfl rfl (any_of HT_.out (by kernel_rfl)) (fun _ _ _ h=>h) (Or.inl ⟨by rfl,?_⟩) ?_ ?_
          rotate_left
          ·intro w'
           go_simp
           with_reducible rfl
          rotate_left
          ·simp only [Act.put,List.setIfInBounds_toArray,List.set_cons_zero,List.set_cons_succ,i64_w,i32_w]
           rfl
          refine pure_ (i:=12) (N:=some 29) (v:=?_) (a':=?_) #[true,true,true,true,true,true,true,true,true,true,true,true,true,false,false,false,false,false,false,false,false,false,false,false,false,false,false,false,false,false,false,false,false,false,false,false,false,false,false] rfl rfl (any_of HT_.out (by kernel_rfl)) (fun _ _ _ h=>h) (Or.inl ⟨by rfl,?_⟩) ?_ ?_
          rotate_left
          ·intro w'
           go_simp
           with_reducible rfl
          rotate_left
          ·simp only [Act.put,List.setIfInBounds_toArray,List.set_cons_zero,List.set_cons_succ,i64_w,i32_w]
           rfl
          refine pure_ (i:=13) (N:=some 30) (v:=?_) (a':=?_) #[true,true,true,true,true,true,true,true,true,true,true,true,true,true,false,false,false,false,false,false,false,false,false,false,false,false,false,false,false,false,false,false,false,false,false,false,false,false,false] rfl rfl (any_of HT_.out (by kernel_rfl)) (fun _ _ _ h=>h) (Or.inl ⟨by rfl,?_⟩) ?_ ?_
          rotate_left
          ·intro w'
           go_simp
           with_reducible rfl
          rotate_left
          ·simp only [Act.put,List.setIfInBounds_toArray,List.set_cons_zero,List.set_cons_succ,i64_w,i32_w]
           rfl
          refine pure_ (i:=14) (N:=some 31) (v:=?_) (a':=?_) #[true,true,true,true,true,true,true,true,true,true,true,true,true,true,true,false,false,false,false,false,false,false,false,false,false,false,false,false,false,false,false,false,false,false,false,false,false,false,false] rfl rfl (any_of HT_.out (by kernel_rfl)) (fun _ _ _ h=>h) (Or.inl ⟨by rfl,?_⟩) ?_ ?_
          rotate_left
          ·intro w'
           go_simp
           with_reducible rfl
          rotate_left
          ·simp only [Act.put,List.setIfInBounds_toArray,List.set_cons_zero,List.set_cons_succ,i64_w,i32_w]
           rfl
          refine pure_ (i:=15) (N:=some 32) (v:=?_) (a':=?_) #[true,true,true,true,true,true,true,true,true,true,true,true,true,true,true,true,false,false,false,false,false,false,false,false,false,false,false,false,false,false,false,false,false,false,false,false,false,false,false] rfl rfl (any_of HT_.out (by kernel_rfl)) (fun _ _ _ h=>h) (Or.inl ⟨by rfl,?_⟩) ?_ ?_
          rotate_left
          ·intro w'
           go_simp
           with_reducible rfl
          rotate_left
          ·simp only [Act.put,List.setIfInBounds_toArray,List.set_cons_zero,List.set_cons_succ,i64_w,i32_w]
           rfl
          refine pure_ (i:=17) (N:=some 34) (v:=?_) (a':=?_) #[true,true,true,true,true,true,true,true,true,true,true,true,true,true,true,true,false,true,false,false,false,false,false,false,false,false,false,false,false,false,false,false,false,false,false,false,false,false,false] rfl rfl (any_of HT_.out (by kernel_rfl)) (fun _ _ _ h=>h) (Or.inl ⟨by rfl,?_⟩) ?_ ?_
          rotate_left
          ·intro w'
           go_simp
           with_reducible rfl
          rotate_left
          ·simp only [Act.put,List.setIfInBounds_toArray,List.set_cons_zero,List.set_cons_succ,i64_w,i32_w]
           rfl
          refine pure_ (i:=18) (N:=some 35) (v:=?_) (a':=?_) #[true,true,true,true,true,true,true,true,true,true,true,true,true,true,true,true,false,true,true,false,false,false,false,false,false,false,false,false,false,false,false,false,false,false,false,false,false,false,false] rfl rfl (any_of HT_.out (by kernel_rfl)) (fun _ _ _ h=>h) (Or.inl ⟨by rfl,?_⟩) ?_ ?_
          rotate_left
          ·intro w'
           go_simp
           with_reducible rfl
          rotate_left
          ·simp only [Act.put,List.setIfInBounds_toArray,List.set_cons_zero,List.set_cons_succ,i64_w,i32_w]
           rfl
          refine pure_ (i:=19) (N:=some 36) (v:=?_) (a':=?_) #[true,true,true,true,true,true,true,true,true,true,true,true,true,true,true,true,false,true,true,true,false,false,false,false,false,false,false,false,false,false,false,false,false,false,false,false,false,false,false] rfl rfl (any_of HT_.out (by kernel_rfl)) (fun _ _ _ h=>h) (Or.inl ⟨by rfl,?_⟩) ?_ ?_
          rotate_left
          ·intro w'
           go_simp
           with_reducible rfl
          rotate_left
          ·simp only [Act.put,List.setIfInBounds_toArray,List.set_cons_zero,List.set_cons_succ,i64_w,i32_w]
           rfl
          refine pure_ (i:=20) (N:=some 37) (v:=?_) (a':=?_) #[true,true,true,true,true,true,true,true,true,true,true,true,true,true,true,true,false,true,true,true,true,false,false,false,false,false,false,false,false,false,false,false,false,false,false,false,false,false,false] rfl rfl (any_of HT_.out (by kernel_rfl)) (fun _ _ _ h=>h) (Or.inl ⟨by rfl,?_⟩) ?_ ?_
          rotate_left
          ·intro w'
           go_simp
           with_reducible rfl
          rotate_left
          ·simp only [Act.put,List.setIfInBounds_toArray,List.set_cons_zero,List.set_cons_succ,i64_w,i32_w]
           rfl
          refine take_ (i:=16) (N:=some 33) (v:=?_) (a':=?_) #[true,true,true,true,true,true,true,true,true,true,true,true,true,true,true,true,true,true,true,true,true,false,false,false,false,false,false,false,false,false,false,false,false,false,false,false,false,false,false] rfl rfl (take_ofW HT_.out HW_.out (by kernel_rfl)) (fun _ _ _ h=>h) (Or.inl ⟨by rfl,?_⟩) hHeld ?_ ?_
          rotate_left
          ·rintro w' ⟨s0,s1,s2,s3,s4,s5,s6,s7,s8,s9,s10,s11,s12,s13,s14,s15,s16,s17⟩
           go_simp
           with_reducible rfl
          rotate_left
          ·simp only [Act.put,List.setIfInBounds_toArray,List.set_cons_zero,List.set_cons_succ,i64_w,i32_w]
           rfl
          refine take_ (i:=21) (N:=some 38) (v:=?_) (a':=?_) #[true,true,true,true,true,true,true,true,true,true,true,true,true,true,true,true,true,true,true,true,true,true,false,false,false,false,false,false,false,false,false,false,false,false,false,false,false,false,false] rfl rfl (take_ofW HT_.out HW_.out (by kernel_rfl)) (fun _ _ _ h=>h) (Or.inl ⟨by rfl,?_⟩) hHeld ?_ ?_
          rotate_left
          ·rintro w' ⟨s0,s1,s2,s3,s4,s5,s6,s7,s8,s9,s10,s11,s12,s13,s14,s15,s16,s17⟩
           go_simp
           with_reducible rfl
          rotate_left
          ·simp only [Act.put,List.setIfInBounds_toArray,List.set_cons_zero,List.set_cons_succ,i64_w,i32_w]
           rfl
          refine one_ (i:=22) (N:=some 39) #[true,true,true,true,true,true,true,true,true,true,true,true,true,true,true,true,true,true,true,true,true,true,true,false,false,false,false,false,false,false,false,false,false,false,false,false,false,false,false] rfl rfl (one_of HT_.out (by kernel_rfl)) (by decide) (fun K hK=>?_)
          refine goes_ Tryz.func47 (by kernel_rfl) rfl #[.slice A375_1 ((rd_T82 l0 x5_1).f1).length c375_1,.slice A376_1 ((rd_T82 l1 x5_1).f1).length c376_1] (by rfl) rfl rfl (by (try simp only [List.map_toArray,List.map_cons,List.map_nil]);first | done | rfl | (simp only [List.length_drop,List.length_take];rfl)) ?_
          with_reducible refine (r07_SameAll.calls k1 _ _ ((rd_T82 l0 x5_1).f1) _ _ ((rd_T82 l1 x5_1).f1) true _ ?side1 ?side2 ?side3 ?side4 A8.out).mono ?_
          (case side1=>repeat (first | exact (Kd.C_below HR377_1.out HB.out) | (with_reducible refine Kd.C_alloc ?_ _) | (with_reducible refine Kd.C_drewN ?_ _) | (with_reducible refine Kd.C_drew ?_)))
          (case side2=>exact HC377_1.out)
          (case side3=>repeat (first | exact (Kd.C_below HR378_1.out HB.out) | (with_reducible refine Kd.C_alloc ?_ _) | (with_reducible refine Kd.C_drewN ?_ _) | (with_reducible refine Kd.C_drew ?_)))
          (case side4=>exact HC378_1.out)
          rintro e w16 ⟨rfl,hb⟩
          refine ⟨_,rfl,?_⟩
          have n0_:=As.mk (bS (by repeat (first | (with_reducible first | exact HB.out | apply bA | apply bN | apply bD) | exact HB.out)) hb)
          clear HB
          have HB:=n0_
          clear n0_
          (try clear hb)
          (try clear hb2)
          (try clear hk)
          (try clear hi)
          refine hK.out _ _ ⟨((HB.out.cell (World.block_lt_of_cell? w _ hw375_0)).trans hw375_0),((HB.out.cell (World.block_lt_of_cell? w _ hw375_1)).trans hw375_1),((HB.out.cell (World.block_lt_of_cell? w _ hw375_2)).trans hw375_2),((HB.out.cell (World.block_lt_of_cell? w _ hw376_0)).trans hw376_0),((HB.out.cell (World.block_lt_of_cell? w _ hw376_1)).trans hw376_1),((HB.out.cell (World.block_lt_of_cell? w _ hw376_2)).trans hw376_2),((HB.out.cell (World.block_lt_of_cell? w _ hw377_0)).trans hw377_0),((HB.out.cell (World.block_lt_of_cell? w _ hw377_1)).trans hw377_1),((HB.out.cell (World.block_lt_of_cell? w _ hw377_2)).trans hw377_2),((HB.out.cell (World.block_lt_of_cell? w _ hw378_0)).trans hw378_0),((HB.out.cell (World.block_lt_of_cell? w _ hw378_1)).trans hw378_1),((HB.out.cell (World.block_lt_of_cell? w _ hw378_2)).trans hw378_2),((HB.out.cell (World.block_lt_of_cell? w _ hw380_0)).trans hw380_0),((HB.out.cell (World.block_lt_of_cell? w _ hw380_1)).trans hw380_1),((HB.out.cell (World.block_lt_of_cell? w _ hw380_2)).trans hw380_2),((HB.out.cell (World.block_lt_of_cell? w _ hw381_0)).trans hw381_0),((HB.out.cell (World.block_lt_of_cell? w _ hw381_1)).trans hw381_1),((HB.out.cell (World.block_lt_of_cell? w _ hw381_2)).trans hw381_2)⟩ (fun hHeld=>?_)
          clear hK K
          refine norm_ (a':=?_) ?_ ?_
          rotate_left
          ·show Act.put _ (some 39) _ = _
           simp only [Act.put,List.setIfInBounds_toArray,List.set_cons_zero,List.set_cons_succ,i64_w,i32_w]
           rfl
          refine pure_ (i:=23) (N:=some 40) (v:=?_) (a':=?_) #[true,true,true,true,true,true,true,true,true,true,true,true,true,true,true,true,true,true,true,true,true,true,true,true,false,false,false,false,false,false,false,false,false,false,false,false,false,false,false] rfl rfl (any_of HT_.out (by kernel_rfl)) (fun _ _ _ h=>h) (Or.inl ⟨by rfl,?_⟩) ?_ ?_
          rotate_left
          ·intro w'
           go_simp
           with_reducible rfl
          rotate_left
          ·simp only [Act.put,List.setIfInBounds_toArray,List.set_cons_zero,List.set_cons_succ,i64_w,i32_w]
           rfl
          refine pure_ (i:=24) (N:=some 41) (v:=?_) (a':=?_) #[true,true,true,true,true,true,true,true,true,true,true,true,true,true,true,true,true,true,true,true,true,true,true,true,true,false,false,false,false,false,false,false,false,false,false,false,false,false,false] rfl rfl (any_of HT_.out (by kernel_rfl)) (fun _ _ _ h=>h) (Or.inl ⟨by rfl,?_⟩) ?_ ?_
          rotate_left
          ·intro w'
           go_simp
           with_reducible rfl
          rotate_left
          ·simp only [Act.put,List.setIfInBounds_toArray,List.set_cons_zero,List.set_cons_succ,i64_w,i32_w]
           rfl
          refine pure_ (i:=25) (N:=some 42) (v:=?_) (a':=?_) #[true,true,true,true,true,true,true,true,true,true,true,true,true,true,true,true,true,true,true,true,true,true,true,true,true,true,false,false,false,false,false,false,false,false,false,false,false,false,false] rfl rfl (any_of HT_.out (by kernel_rfl)) (fun _ _ _ h=>h) (Or.inl ⟨by rfl,?_⟩) ?_ ?_
          rotate_left
          ·intro w'
           go_simp
           with_reducible rfl
          rotate_left
          ·simp only [Act.put,List.setIfInBounds_toArray,List.set_cons_zero,List.set_cons_succ,i64_w,i32_w]
           rfl
          refine pure_ (i:=26) (N:=some 43) (v:=?_) (a':=?_) #[true,true,true,true,true,true,true,true,true,true,true,true,true,true,true,true,true,true,true,true,true,true,true,true,true,true,true,false,false,false,false,false,false,false,false,false,false,false,false] rfl rfl (any_of HT_.out (by kernel_rfl)) (fun _ _ _ h=>h) (Or.inl ⟨by rfl,?_⟩) ?_ ?_
          rotate_left
          ·intro w'
           go_simp
           with_reducible rfl
          rotate_left
          ·simp only [Act.put,List.setIfInBounds_toArray,List.set_cons_zero,List.set_cons_succ,i64_w,i32_w]
           rfl
          refine pure_ (i:=27) (N:=some 44) (v:=?_) (a':=?_) #[true,true,true,true,true,true,true,true,true,true,true,true,true,true,true,true,true,true,true,true,true,true,true,true,true,true,true,true,false,false,false,false,false,false,false,false,false,false,false] rfl rfl (any_of HT_.out (by kernel_rfl)) (fun _ _ _ h=>h) (Or.inl ⟨by rfl,?_⟩) ?_ ?_
          rotate_left
          ·intro w'
           go_simp
           with_reducible rfl
          rotate_left
          ·simp only [Act.put,List.setIfInBounds_toArray,List.set_cons_zero,List.set_cons_succ,i64_w,i32_w]
           rfl
          refine pure_ (i:=28) (N:=some 45) (v:=?_) (a':=?_) #[true,true,true,true,true,true,true,true,true,true,true,true,true,true,true,true,true,true,true,true,true,true,true,true,true,true,true,true,true,false,false,false,false,false,false,false,false,false,false] rfl rfl (any_of HT_.out (by kernel_rfl)) (fun _ _ _ h=>h) (Or.inl ⟨by rfl,?_⟩) ?_ ?_
          rotate_left
          ·intro w'
           go_simp
           with_reducible rfl
          rotate_left
          ·simp only [Act.put,List.setIfInBounds_toArray,List.set_cons_zero,List.set_cons_succ,i64_w,i32_w]
           rfl
          refine pure_ (i:=29) (N:=some 46) (v:=?_) (a':=?_) #[true,true,true,true,true,true,true,true,true,true,true,true,true,true,true,true,true,true,true,true,true,true,true,true,true,true,true,true,true,true,false,false,false,false,false,false,false,false,false] rfl rfl (any_of HT_.out (by kernel_rfl)) (fun _ _ _ h=>h) (Or.inl ⟨by rfl,?_⟩) ?_ ?_
          rotate_left
          ·intro w'
           go_simp
           with_reducible rfl
          rotate_left
          ·simp only [Act.put,List.setIfInBounds_toArray,List.set_cons_zero,List.set_cons_succ,i64_w,i32_w]
           rfl
          refine pure_ (i:=31) (N:=some 48) (v:=?_) (a':=?_) #[true,true,true,true,true,true,true,true,true,true,true,true,true,true,true,true,true,true,true,true,true,true,true,true,true,true,true,true,true,true,false,true,false,false,false,false,false,false,false] rfl rfl (any_of HT_.out (by kernel_rfl)) (fun _ _ _ h=>h) (Or.inl ⟨by rfl,?_⟩) ?_ ?_
          rotate_left
          ·intro w'
           go_simp
           with_reducible rfl
          rotate_left
          ·simp only [Act.put,List.setIfInBounds_toArray,List.set_cons_zero,List.set_cons_succ,i64_w,i32_w]
           rfl
          refine pure_ (i:=32) (N:=some 49) (v:=?_) (a':=?_) #[true,true,true,true,true,true,true,true,true,true,true,true,true,true,true,true,true,true,true,true,true,true,true,true,true,true,true,true,true,true,false,true,true,false,false,false,false,false,false] rfl rfl (any_of HT_.out (by kernel_rfl)) (fun _ _ _ h=>h) (Or.inl ⟨by rfl,?_⟩) ?_ ?_
          rotate_left
          ·intro w'
           go_simp
           with_reducible rfl
          rotate_left
          ·simp only [Act.put,List.setIfInBounds_toArray,List.set_cons_zero,List.set_cons_succ,i64_w,i32_w]
           rfl
          refine pure_ (i:=33) (N:=some 50) (v:=?_) (a':=?_) #[true,true,true,true,true,true,true,true,true,true,true,true,true,true,true,true,true,true,true,true,true,true,true,true,true,true,true,true,true,true,false,true,true,true,false,false,false,false,false] rfl rfl (any_of HT_.out (by kernel_rfl)) (fun _ _ _ h=>h) (Or.inl ⟨by rfl,?_⟩) ?_ ?_
          rotate_left
          ·intro w'
           go_simp
           with_reducible rfl
          rotate_left
          ·simp only [Act.put,List.setIfInBounds_toArray,List.set_cons_zero,List.set_cons_succ,i64_w,i32_w]
           rfl
          refine pure_ (i:=34) (N:=some 51) (v:=?_) (a':=?_) #[true,true,true,true,true,true,true,true,true,true,true,true,true,true,true,true,true,true,true,true,true,true,true,true,true,true,true,true,true,true,false,true,true,true,true,false,false,false,false] rfl rfl (any_of HT_.out (by kernel_rfl)) (fun _ _ _ h=>h) (Or.inl ⟨by rfl,?_⟩) ?_ ?_
          rotate_left
          ·intro w'
           go_simp
           with_reducible rfl
          rotate_left
          ·simp only [Act.put,List.setIfInBounds_toArray,List.set_cons_zero,List.set_cons_succ,i64_w,i32_w]
           rfl
          refine take_ (i:=30) (N:=some 47) (v:=?_) (a':=?_) #[true,true,true,true,true,true,true,true,true,true,true,true,true,true,true,true,true,true,true,true,true,true,true,true,true,true,true,true,true,true,true,true,true,true,true,false,false,false,false] rfl rfl (take_ofW HT_.out HW_.out (by kernel_rfl)) (fun _ _ _ h=>h) (Or.inl ⟨by rfl,?_⟩) hHeld ?_ ?_
          rotate_left
          ·rintro w' ⟨s0,s1,s2,s3,s4,s5,s6,s7,s8,s9,s10,s11,s12,s13,s14,s15,s16,s17⟩
           go_simp
           with_reducible rfl
          rotate_left
          ·simp only [Act.put,List.setIfInBounds_toArray,List.set_cons_zero,List.set_cons_succ,i64_w,i32_w]
           rfl
          refine take_ (i:=35) (N:=some 52) (v:=?_) (a':=?_) #[true,true,true,true,true,true,true,true,true,true,true,true,true,true,true,true,true,true,true,true,true,true,true,true,true,true,true,true,true,true,true,true,true,true,true,true,false,false,false] rfl rfl (take_ofW HT_.out HW_.out (by kernel_rfl)) (fun _ _ _ h=>h) (Or.inl ⟨by rfl,?_⟩) hHeld ?_ ?_
          rotate_left
          ·rintro w' ⟨s0,s1,s2,s3,s4,s5,s6,s7,s8,s9,s10,s11,s12,s13,s14,s15,s16,s17⟩
           go_simp
           with_reducible rfl
          rotate_left
          ·simp only [Act.put,List.setIfInBounds_toArray,List.set_cons_zero,List.set_cons_succ,i64_w,i32_w]
           rfl
          refine one_ (i:=36) (N:=some 53) #[true,true,true,true,true,true,true,true,true,true,true,true,true,true,true,true,true,true,true,true,true,true,true,true,true,true,true,true,true,true,true,true,true,true,true,true,true,false,false] rfl rfl (one_of HT_.out (by kernel_rfl)) (by decide) (fun K hK=>?_)
          refine goes_ Tryz.func47 (by kernel_rfl) rfl #[.slice A375_2 ((rd_T82 l0 x5_1).f2).length c375_2,.slice A376_2 ((rd_T82 l1 x5_1).f2).length c376_2] (by rfl) rfl rfl (by (try simp only [List.map_toArray,List.map_cons,List.map_nil]);first | done | rfl | (simp only [List.length_drop,List.length_take];rfl)) ?_
          with_reducible refine (r07_SameAll.calls k1 _ _ ((rd_T82 l0 x5_1).f2) _ _ ((rd_T82 l1 x5_1).f2) false _ ?side1 ?side2 ?side3 ?side4 A10.out).mono ?_
          (case side1=>repeat (first | exact (Kd.C_below HR380_2.out HB.out) | (with_reducible refine Kd.C_alloc ?_ _) | (with_reducible refine Kd.C_drewN ?_ _) | (with_reducible refine Kd.C_drew ?_)))
          (case side2=>exact HC380_2.out)
          (case side3=>repeat (first | exact (Kd.C_below HR381_2.out HB.out) | (with_reducible refine Kd.C_alloc ?_ _) | (with_reducible refine Kd.C_drewN ?_ _) | (with_reducible refine Kd.C_drew ?_)))
          (case side4=>exact HC381_2.out)
          rintro e w17 ⟨rfl,hb⟩
          refine ⟨_,rfl,?_⟩
          have n0_:=As.mk (bS (by repeat (first | (with_reducible first | exact HB.out | apply bA | apply bN | apply bD) | exact HB.out)) hb)
          clear HB
          have HB:=n0_
          clear n0_
          (try clear hb)
          (try clear hb2)
          (try clear hk)
          (try clear hi)
          refine hK.out _ _ ⟨((HB.out.cell (World.block_lt_of_cell? w _ hw375_0)).trans hw375_0),((HB.out.cell (World.block_lt_of_cell? w _ hw375_1)).trans hw375_1),((HB.out.cell (World.block_lt_of_cell? w _ hw375_2)).trans hw375_2),((HB.out.cell (World.block_lt_of_cell? w _ hw376_0)).trans hw376_0),((HB.out.cell (World.block_lt_of_cell? w _ hw376_1)).trans hw376_1),((HB.out.cell (World.block_lt_of_cell? w _ hw376_2)).trans hw376_2),((HB.out.cell (World.block_lt_of_cell? w _ hw377_0)).trans hw377_0),((HB.out.cell (World.block_lt_of_cell? w _ hw377_1)).trans hw377_1),((HB.out.cell (World.block_lt_of_cell? w _ hw377_2)).trans hw377_2),((HB.out.cell (World.block_lt_of_cell? w _ hw378_0)).trans hw378_0),((HB.out.cell (World.block_lt_of_cell? w _ hw378_1)).trans hw378_1),((HB.out.cell (World.block_lt_of_cell? w _ hw378_2)).trans hw378_2),((HB.out.cell (World.block_lt_of_cell? w _ hw380_0)).trans hw380_0),((HB.out.cell (World.block_lt_of_cell? w _ hw380_1)).trans hw380_1),((HB.out.cell (World.block_lt_of_cell? w _ hw380_2)).trans hw380_2),((HB.out.cell (World.block_lt_of_cell? w _ hw381_0)).trans hw381_0),((HB.out.cell (World.block_lt_of_cell? w _ hw381_1)).trans hw381_1),((HB.out.cell (World.block_lt_of_cell? w _ hw381_2)).trans hw381_2)⟩ (fun hHeld=>?_)
          clear hK K
          refine norm_ (a':=?_) ?_ ?_
          rotate_left
          ·show Act.put _ (some 53) _ = _
           simp only [Act.put,List.setIfInBounds_toArray,List.set_cons_zero,List.set_cons_succ,i64_w,i32_w]
           rfl
          refine pure_ (i:=37) (N:=some 54) (v:=?_) (a':=?_) #[true,true,true,true,true,true,true,true,true,true,true,true,true,true,true,true,true,true,true,true,true,true,true,true,true,true,true,true,true,true,true,true,true,true,true,true,true,true,false] rfl rfl (any_of HT_.out (by kernel_rfl)) (fun _ _ _ h=>h) (Or.inl ⟨by rfl,?_⟩) ?_ ?_
          rotate_left
          ·intro w'
           go_simp
           with_reducible rfl
          rotate_left
          ·simp only [Act.put,List.setIfInBounds_toArray,List.set_cons_zero,List.set_cons_succ,i64_w,i32_w]
           rfl
          refine pure_ (i:=38) (N:=some 55) (v:=?_) (a':=?_) #[true,true,true,true,true,true,true,true,true,true,true,true,true,true,true,true,true,true,true,true,true,true,true,true,true,true,true,true,true,true,true,true,true,true,true,true,true,true,true] rfl rfl (any_of HT_.out (by kernel_rfl)) (fun _ _ _ h=>h) (Or.inl ⟨by rfl,?_⟩) ?_ ?_
          rotate_left
          ·intro w'
           go_simp
           with_reducible rfl
          rotate_left
          ·simp only [Act.put,List.setIfInBounds_toArray,List.set_cons_zero,List.set_cons_succ,i64_w,i32_w]
           rfl
          refine done_ (done_of HT_.out (by kernel_rfl)) ?_
          try go_wp2
          go_ret
          exact ⟨by first | rfl | (simp [eN,eS] <;> rfl) | (simp [*,eN,eS] <;> rfl),by repeat (first | (with_reducible first | exact HB.out | apply bA | apply bN | apply bD) | exact HB.out)⟩
        ·replace c9:=Bool.eq_false_iff.mpr c9
         subst c9
         have H1 : (some false) = some r:=by rw [if_neg (show ¬ (false = true) by decide)] at H;exact H
         clear H
         have H:=H1
         clear H1
         obtain rfl:=Option.some.inj H
         try go_wp2
         have n0_:=As.mk (bD HB.out)
         clear HB
         have HB:=n0_
         clear n0_
         have p375 : 0 ≤ (x5_1 : Int):=of_decide_eq_true (by first | (with_reducible assumption) | assumption)
         have q375 : x5_1 < (l0.length : Int):=of_decide_eq_true (by first | (with_reducible assumption) | assumption)
         obtain ⟨ad375,A375_1,c375_1,A375_2,c375_2,e375,hx375_0,hx375_1,hx375_2,hl375_1,hi375_1,hl375_2,hi375_2⟩:=at_T82 HR0.out x5_1 p375 q375
         have hw375_2:=hx375_2
         have hw375_1:=hx375_1
         have hw375_0:=hx375_0
         cases e375
         replace hx375_0:=(HB.out.cell (World.block_lt_of_cell? w _ hx375_0)).trans hx375_0
         replace hx375_1:=(HB.out.cell (World.block_lt_of_cell? w _ hx375_1)).trans hx375_1
         replace hx375_2:=(HB.out.cell (World.block_lt_of_cell? w _ hx375_2)).trans hx375_2
         have HR375_1:=As.mk hi375_1
         have HC375_1:=As.mk hl375_1
         clear hi375_1 hl375_1
         have HR375_2:=As.mk hi375_2
         have HC375_2:=As.mk hl375_2
         clear hi375_2 hl375_2
         replace p375:=eq_true p375
         replace q375:=eq_true q375
         have p376 : 0 ≤ (x5_1 : Int):=of_decide_eq_true (by first | (with_reducible assumption) | assumption)
         have q376 : x5_1 < (l1.length : Int):=of_decide_eq_true (by first | (with_reducible assumption) | assumption)
         obtain ⟨ad376,A376_1,c376_1,A376_2,c376_2,e376,hx376_0,hx376_1,hx376_2,hl376_1,hi376_1,hl376_2,hi376_2⟩:=at_T82 HR1.out x5_1 p376 q376
         have hw376_2:=hx376_2
         have hw376_1:=hx376_1
         have hw376_0:=hx376_0
         cases e376
         replace hx376_0:=(HB.out.cell (World.block_lt_of_cell? w _ hx376_0)).trans hx376_0
         replace hx376_1:=(HB.out.cell (World.block_lt_of_cell? w _ hx376_1)).trans hx376_1
         replace hx376_2:=(HB.out.cell (World.block_lt_of_cell? w _ hx376_2)).trans hx376_2
         have HR376_1:=As.mk hi376_1
         have HC376_1:=As.mk hl376_1
         clear hi376_1 hl376_1
         have HR376_2:=As.mk hi376_2
         have HC376_2:=As.mk hl376_2
         clear hi376_2 hl376_2
         replace p376:=eq_true p376
         replace q376:=eq_true q376
         have p377 : 0 ≤ (x5_1 : Int):=of_decide_eq_true (by first | (with_reducible assumption) | assumption)
         have q377 : x5_1 < (l0.length : Int):=of_decide_eq_true (by first | (with_reducible assumption) | assumption)
         obtain ⟨ad377,A377_1,c377_1,A377_2,c377_2,e377,hx377_0,hx377_1,hx377_2,hl377_1,hi377_1,hl377_2,hi377_2⟩:=at_T82 HR0.out x5_1 p377 q377
         have hw377_2:=hx377_2
         have hw377_1:=hx377_1
         have hw377_0:=hx377_0
         obtain rfl : ad375 = ad377:=(by injection e377)
         replace hx377_0:=(HB.out.cell (World.block_lt_of_cell? w _ hx377_0)).trans hx377_0
         replace hx377_1:=(HB.out.cell (World.block_lt_of_cell? w _ hx377_1)).trans hx377_1
         replace hx377_2:=(HB.out.cell (World.block_lt_of_cell? w _ hx377_2)).trans hx377_2
         have HR377_1:=As.mk hi377_1
         have HC377_1:=As.mk hl377_1
         clear hi377_1 hl377_1
         have HR377_2:=As.mk hi377_2
         have HC377_2:=As.mk hl377_2
         clear hi377_2 hl377_2
         replace p377:=eq_true p377
         replace q377:=eq_true q377
         have ea_:=Option.some.inj (hx375_1.symm.trans hx377_1)
         injection ea_ with ea_ en_ ec_
         subst ea_
         subst ec_
         clear en_
         have ea_:=Option.some.inj (hx375_2.symm.trans hx377_2)
         injection ea_ with ea_ en_ ec_
         subst ea_
         subst ec_
         clear en_
         have p378 : 0 ≤ (x5_1 : Int):=of_decide_eq_true (by first | (with_reducible assumption) | assumption)
         have q378 : x5_1 < (l1.length : Int):=of_decide_eq_true (by first | (with_reducible assumption) | assumption)
         obtain ⟨ad378,A378_1,c378_1,A378_2,c378_2,e378,hx378_0,hx378_1,hx378_2,hl378_1,hi378_1,hl378_2,hi378_2⟩:=at_T82 HR1.out x5_1 p378 q378
         have hw378_2:=hx378_2
         have hw378_1:=hx378_1
         have hw378_0:=hx378_0
         obtain rfl : ad376 = ad378:=(by injection e378)
         replace hx378_0:=(HB.out.cell (World.block_lt_of_cell? w _ hx378_0)).trans hx378_0
         replace hx378_1:=(HB.out.cell (World.block_lt_of_cell? w _ hx378_1)).trans hx378_1
         replace hx378_2:=(HB.out.cell (World.block_lt_of_cell? w _ hx378_2)).trans hx378_2
         have HR378_1:=As.mk hi378_1
         have HC378_1:=As.mk hl378_1
         clear hi378_1 hl378_1
         have HR378_2:=As.mk hi378_2
         have HC378_2:=As.mk hl378_2
         clear hi378_2 hl378_2
         replace p378:=eq_true p378
         replace q378:=eq_true q378
         have ea_:=Option.some.inj (hx376_1.symm.trans hx378_1)
         injection ea_ with ea_ en_ ec_
         subst ea_
         subst ec_
         clear en_
         have ea_:=Option.some.inj (hx376_2.symm.trans hx378_2)
         injection ea_ with ea_ en_ ec_
         subst ea_
         subst ec_
         clear en_
         refine start_ (n:=39) (S:=fun w'=>w'.cell? (ad375.add ((x5_1).toNat * 3)) = some (.string ((rd_T82 l0 x5_1).f0)) ∧ w'.cell? ⟨(ad375.add ((x5_1).toNat * 3)).block,(ad375.add ((x5_1).toNat * 3)).off + 1,none⟩ = some (.slice A375_1 ((rd_T82 l0 x5_1).f1).length c375_1) ∧ w'.cell? ⟨(ad375.add ((x5_1).toNat * 3)).block,(ad375.add ((x5_1).toNat * 3)).off + 2,none⟩ = some (.slice A375_2 ((rd_T82 l0 x5_1).f2).length c375_2) ∧ w'.cell? (ad376.add ((x5_1).toNat * 3)) = some (.string ((rd_T82 l1 x5_1).f0)) ∧ w'.cell? ⟨(ad376.add ((x5_1).toNat * 3)).block,(ad376.add ((x5_1).toNat * 3)).off + 1,none⟩ = some (.slice A376_1 ((rd_T82 l1 x5_1).f1).length c376_1) ∧ w'.cell? ⟨(ad376.add ((x5_1).toNat * 3)).block,(ad376.add ((x5_1).toNat * 3)).off + 2,none⟩ = some (.slice A376_2 ((rd_T82 l1 x5_1).f2).length c376_2) ∧ w'.cell? (ad375.add ((x5_1).toNat * 3)) = some (.string ((rd_T82 l0 x5_1).f0)) ∧ w'.cell? ⟨(ad375.add ((x5_1).toNat * 3)).block,(ad375.add ((x5_1).toNat * 3)).off + 1,none⟩ = some (.slice A375_1 ((rd_T82 l0 x5_1).f1).length c375_1) ∧ w'.cell? ⟨(ad375.add ((x5_1).toNat * 3)).block,(ad375.add ((x5_1).toNat * 3)).off + 2,none⟩ = some (.slice A375_2 ((rd_T82 l0 x5_1).f2).length c375_2) ∧ w'.cell? (ad376.add ((x5_1).toNat * 3)) = some (.string ((rd_T82 l1 x5_1).f0)) ∧ w'.cell? ⟨(ad376.add ((x5_1).toNat * 3)).block,(ad376.add ((x5_1).toNat * 3)).off + 1,none⟩ = some (.slice A376_1 ((rd_T82 l1 x5_1).f1).length c376_1) ∧ w'.cell? ⟨(ad376.add ((x5_1).toNat * 3)).block,(ad376.add ((x5_1).toNat * 3)).off + 2,none⟩ = some (.slice A376_2 ((rd_T82 l1 x5_1).f2).length c376_2)) (ds:=[]) #[false,false,false,false,false,false,false,false,false,false,false,false,false,false,false,false,false,false,false,false,false,false,false,false,false,false,false,false,false,false,false,false,false,false,false,false,false,false,false] (by kernel_rfl) rfl rfl ⟨((HB.out.cell (World.block_lt_of_cell? w _ hw375_0)).trans hw375_0),((HB.out.cell (World.block_lt_of_cell? w _ hw375_1)).trans hw375_1),((HB.out.cell (World.block_lt_of_cell? w _ hw375_2)).trans hw375_2),((HB.out.cell (World.block_lt_of_cell? w _ hw376_0)).trans hw376_0),((HB.out.cell (World.block_lt_of_cell? w _ hw376_1)).trans hw376_1),((HB.out.cell (World.block_lt_of_cell? w _ hw376_2)).trans hw376_2),((HB.out.cell (World.block_lt_of_cell? w _ hw377_0)).trans hw377_0),((HB.out.cell (World.block_lt_of_cell? w _ hw377_1)).trans hw377_1),((HB.out.cell (World.block_lt_of_cell? w _ hw377_2)).trans hw377_2),((HB.out.cell (World.block_lt_of_cell? w _ hw378_0)).trans hw378_0),((HB.out.cell (World.block_lt_of_cell? w _ hw378_1)).trans hw378_1),((HB.out.cell (World.block_lt_of_cell? w _ hw378_2)).trans hw378_2)⟩ (fun hHeld=>?_);refine with_tabW r09_Same.tab6 r09_Same.bits6 (fun HT_ HW_=>?_)
         generalize wr.drew = w18 at HB HR375_1 HR375_2 HR376_1 HR376_2 HR377_1 HR377_2 HR378_1 HR378_2 hx375_0 hx375_1 hx375_2 hx376_0 hx376_1 hx376_2 hx377_0 hx377_1 hx377_2 hx378_0 hx378_1 hx378_2 hHeld ⊢
         refine pure_ (i:=0) (N:=some 17) (v:=?_) (a':=?_) #[true,false,false,false,false,false,false,false,false,false,false,false,false,false,false,false,false,false,false,false,false,false,false,false,false,false,false,false,false,false,false,false,false,false,false,false,false,false,false] rfl rfl (any_of HT_.out (by kernel_rfl)) (fun _ _ _ h=>h) (Or.inl ⟨by rfl,?_⟩) ?_ ?_
         rotate_left
         ·intro w'
          go_simp
          with_reducible rfl
         rotate_left
         ·simp only [Act.put,List.setIfInBounds_toArray,List.set_cons_zero,List.set_cons_succ,i64_w,i32_w]
          rfl
         refine pure_ (i:=1) (N:=some 18) (v:=?_) (a':=?_) #[true,true,false,false,false,false,false,false,false,false,false,false,false,false,false,false,false,false,false,false,false,false,false,false,false,false,false,false,false,false,false,false,false,false,false,false,false,false,false] rfl rfl (any_of HT_.out (by kernel_rfl)) (fun _ _ _ h=>h) (Or.inl ⟨by rfl,?_⟩) ?_ ?_
         rotate_left
         ·intro w'
          go_simp
          with_reducible rfl
         rotate_left
         ·simp only [Act.put,List.setIfInBounds_toArray,List.set_cons_zero,List.set_cons_succ,i64_w,i32_w]
          rfl
         refine pure_ (i:=2) (N:=some 19) (v:=?_) (a':=?_) #[true,true,true,false,false,false,false,false,false,false,false,false,false,false,false,false,false,false,false,false,false,false,false,false,false,false,false,false,false,false,false,false,false,false,false,false,false,false,false] rfl rfl (any_of HT_.out (by kernel_rfl)) (fun _ _ _ h=>h) (Or.inl ⟨by rfl,?_⟩) ?_ ?_
         rotate_left
         ·intro w'
          go_simp
          with_reducible rfl
         rotate_left
         ·simp only [Act.put,List.setIfInBounds_toArray,List.set_cons_zero,List.set_cons_succ,i64_w,i32_w]
          rfl
         refine pure_ (i:=3) (N:=some 20) (v:=?_) (a':=?_) #[true,true,true,true,false,false,false,false,false,false,false,false,false,false,false,false,false,false,false,false,false,false,false,false,false,false,false,false,false,false,false,false,false,false,false,false,false,false,false] rfl rfl (any_of HT_.out (by kernel_rfl)) (fun _ _ _ h=>h) (Or.inl ⟨by rfl,?_⟩) ?_ ?_
         rotate_left
         ·intro w'
          go_simp
          with_reducible rfl
         rotate_left
         ·simp only [Act.put,List.setIfInBounds_toArray,List.set_cons_zero,List.set_cons_succ,i64_w,i32_w]
          rfl
         refine pure_ (i:=5) (N:=some 22) (v:=?_) (a':=?_) #[true,true,true,true,false,true,false,false,false,false,false,false,false,false,false,false,false,false,false,false,false,false,false,false,false,false,false,false,false,false,false,false,false,false,false,false,false,false,false] rfl rfl (any_of HT_.out (by kernel_rfl)) (fun _ _ _ h=>h) (Or.inl ⟨by rfl,?_⟩) ?_ ?_
         rotate_left
         ·intro w'
          go_simp
          with_reducible rfl
         rotate_left
         ·simp only [Act.put,List.setIfInBounds_toArray,List.set_cons_zero,List.set_cons_succ,i64_w,i32_w]
          rfl
         refine pure_ (i:=6) (N:=some 23) (v:=?_) (a':=?_) #[true,true,true,true,false,true,true,false,false,false,false,false,false,false,false,false,false,false,false,false,false,false,false,false,false,false,false,false,false,false,false,false,false,false,false,false,false,false,false] rfl rfl (any_of HT_.out (by kernel_rfl)) (fun _ _ _ h=>h) (Or.inl ⟨by rfl,?_⟩) ?_ ?_
         rotate_left
         ·intro w'
          go_simp
          with_reducible rfl
         rotate_left
         ·simp only [Act.put,List.setIfInBounds_toArray,List.set_cons_zero,List.set_cons_succ,i64_w,i32_w]
          rfl
         refine pure_ (i:=7) (N:=some 24) (v:=?_) (a':=?_) #[true,true,true,true,false,true,true,true,false,false,false,false,false,false,false,false,false,false,false,false,false,false,false,false,false,false,false,false,false,false,false,false,false,false,false,false,false,false,false] rfl rfl (any_of HT_.out (by kernel_rfl)) (fun _ _ _ h=>h) (Or.inl ⟨by rfl,?_⟩) ?_ ?_
         rotate_left
         ·intro w'
          go_simp
          with_reducible rfl
         rotate_left
         ·simp only [Act.put,List.setIfInBounds_toArray,List.set_cons_zero,List.set_cons_succ,i64_w,i32_w]
          rfl
         refine pure_ (i:=8) (N:=some 25) (v:=?_) (a':=?_) #[true,true,true,true,false,true,true,true,true,false,false,false,false,false,false,false,false,false,false,false,false,false,false,false,false,false,false,false,false,false,false,false,false,false,false,false,false,false,false] rfl rfl (any_of HT_.out (by kernel_rfl)) (fun _ _ _ h=>h) (Or.inl ⟨by rfl,?_⟩) ?_ ?_
         rotate_left
         ·intro w'
          go_simp
          with_reducible rfl
         rotate_left
         ·simp only [Act.put,List.setIfInBounds_toArray,List.set_cons_zero,List.set_cons_succ,i64_w,i32_w]
          rfl
         refine take_ (i:=4) (N:=some 21) (v:=?_) (a':=?_) #[true,true,true,true,true,true,true,true,true,false,false,false,false,false,false,false,false,false,false,false,false,false,false,false,false,false,false,false,false,false,false,false,false,false,false,false,false,false,false] rfl rfl (take_ofW HT_.out HW_.out (by kernel_rfl)) (fun _ _ _ h=>h) (Or.inl ⟨by rfl,?_⟩) hHeld ?_ ?_
         rotate_left
         ·rintro w' ⟨s0,s1,s2,s3,s4,s5,s6,s7,s8,s9,s10,s11⟩
          go_simp
          with_reducible rfl
         rotate_left
         ·simp only [Act.put,List.setIfInBounds_toArray,List.set_cons_zero,List.set_cons_succ,i64_w,i32_w]
          rfl
         refine take_ (i:=9) (N:=some 26) (v:=?_) (a':=?_) #[true,true,true,true,true,true,true,true,true,true,false,false,false,false,false,false,false,false,false,false,false,false,false,false,false,false,false,false,false,false,false,false,false,false,false,false,false,false,false] rfl rfl (take_ofW HT_.out HW_.out (by kernel_rfl)) (fun _ _ _ h=>h) (Or.inl ⟨by rfl,?_⟩) hHeld ?_ ?_
         rotate_left
         ·rintro w' ⟨s0,s1,s2,s3,s4,s5,s6,s7,s8,s9,s10,s11⟩
          go_simp
          with_reducible rfl
         rotate_left
         ·simp only [Act.put,List.setIfInBounds_toArray,List.set_cons_zero,List.set_cons_succ,i64_w,i32_w]
          rfl
         refine pure_ (i:=10) (N:=some 27) (v:=?_) (a':=?_) #[true,true,true,true,true,true,true,true,true,true,true,false,false,false,false,false,false,false,false,false,false,false,false,false,false,false,false,false,false,false,false,false,false,false,false,false,false,false,false] rfl rfl (any_of HT_.out (by kernel_rfl)) (fun _ _ _ h=>h) (Or.inl ⟨by rfl,?_⟩) ?_ ?_
         rotate_left
         ·intro w'
          go_simp
          with_reducible rfl
         rotate_left
         ·simp only [Act.put,List.setIfInBounds_toArray,List.set_cons_zero,List.set_cons_succ,i64_w,i32_w]
          rfl
         refine pure_ (i:=11) (N:=some 28) (v:=?_) (a':=?_) #[true,true,true,true,true,true,true,true,true,true,true,true,false,false,false,false,false,false,false,false,false,false,false,false,false,false,false,false,false,false,false,false,false,false,false,false,false,false,false] rfl rfl (any_of HT_.out (by kernel_rfl)) (fun _ _ _ h=>h) (Or.inl ⟨by rfl,?_⟩) ?_ ?_
         rotate_left
         ·intro w'
          go_simp
          with_reducible rfl
         rotate_left
         ·simp only [Act.put,List.setIfInBounds_toArray,List.set_cons_zero,List.set_cons_succ,i64_w,i32_w]
          rfl
         refine pure_ (i:=12) (N:=some 29) (v:=?_) (a':=?_) #[true,true,true,true,true,true,true,true,true,true,true,true,true,false,false,false,false,false,false,false,false,false,false,false,false,false,false,false,false,false,false,false,false,false,false,false,false,false,false] rfl rfl (any_of HT_.out (by kernel_rfl)) (fun _ _ _ h=>h) (Or.inl ⟨by rfl,?_⟩) ?_ ?_
         rotate_left
         ·intro w'
          go_simp
          with_reducible rfl
         rotate_left
         ·simp only [Act.put,List.setIfInBounds_toArray,List.set_cons_zero,List.set_cons_succ,i64_w,i32_w]
          rfl
         refine pure_ (i:=13) (N:=some 30) (v:=?_) (a':=?_) #[true,true,true,true,true,true,true,true,true,true,true,true,true,true,false,false,false,false,false,false,false,false,false,false,false,false,false,false,false,false,false,false,false,false,false,false,false,false,false] rfl rfl (any_of HT_.out (by kernel_rfl)) (fun _ _ _ h=>h) (Or.inl ⟨by rfl,?_⟩) ?_ ?_
         rotate_left
         ·intro w'
          go_simp
          with_reducible rfl
         rotate_left
         ·simp only [Act.put,List.setIfInBounds_toArray,List.set_cons_zero,List.set_cons_succ,i64_w,i32_w]
          rfl
         refine pure_ (i:=14) (N:=some 31) (v:=?_) (a':=?_) #[true,true,true,true,true,true,true,true,true,true,true,true,true,true,true,false,false,false,false,false,false,false,false,false,false,false,false,false,false,false,false,false,false,false,false,false,false,false,false] rfl rfl (any_of HT_.out (by kernel_rfl)) (fun _ _ _ h=>h) (Or.inl ⟨by rfl,?_⟩) ?_ ?_
         rotate_left
         ·intro w'
          go_simp
          with_reducible rfl
         rotate_left
         ·simp only [Act.put,List.setIfInBounds_toArray,List.set_cons_zero,List.set_cons_succ,i64_w,i32_w]
          rfl
         refine pure_ (i:=15) (N:=some 32) (v:=?_) (a':=?_) #[true,true,true,true,true,true,true,true,true,true,true,true,true,true,true,true,false,false,false,false,false,false,false,false,false,false,false,false,false,false,false,false,false,false,false,false,false,false,false] rfl rfl (any_of HT_.out (by kernel_rfl)) (fun _ _ _ h=>h) (Or.inl ⟨by rfl,?_⟩) ?_ ?_
         rotate_left
         ·intro w'
          go_simp
          with_reducible rfl
         rotate_left
         ·simp only [Act.put,List.setIfInBounds_toArray,List.set_cons_zero,List.set_cons_succ,i64_w,i32_w]
          rfl
         refine pure_ (i:=17) (N:=some 34) (v:=?_) (a':=?_) #[true,true,true,true,true,true,true,true,true,true,true,true,true,true,true,true,false,true,false,false,false,false,false,false,false,false,false,false,false,false,false,false,false,false,false,false,false,false,false] rfl rfl (any_of HT_.out (by kernel_rfl)) (fun _ _ _ h=>h) (Or.inl ⟨by rfl,?_⟩) ?_ ?_
         rotate_left
         ·intro w'
          go_simp
          with_reducible rfl
         rotate_left
         ·simp only [Act.put,List.setIfInBounds_toArray,List.set_cons_zero,List.set_cons_succ,i64_w,i32_w]
          rfl
         refine pure_ (i:=18) (N:=some 35) (v:=?_) (a':=?_) #[true,true,true,true,true,true,true,true,true,true,true,true,true,true,true,true,false,true,true,false,false,false,false,false,false,false,false,false,false,false,false,false,false,false,false,false,false,false,false] rfl rfl (any_of HT_.out (by kernel_rfl)) (fun _ _ _ h=>h) (Or.inl ⟨by rfl,?_⟩) ?_ ?_
         rotate_left
         ·intro w'
          go_simp
          with_reducible rfl
         rotate_left
         ·simp only [Act.put,List.setIfInBounds_toArray,List.set_cons_zero,List.set_cons_succ,i64_w,i32_w]
          rfl
         refine pure_ (i:=19) (N:=some 36) (v:=?_) (a':=?_) #[true,true,true,true,true,true,true,true,true,true,true,true,true,true,true,true,false,true,true,true,false,false,false,false,false,false,false,false,false,false,false,false,false,false,false,false,false,false,false] rfl rfl (any_of HT_.out (by kernel_rfl)) (fun _ _ _ h=>h) (Or.inl ⟨by rfl,?_⟩) ?_ ?_
         rotate_left
         ·intro w'
          go_simp
          with_reducible rfl
         rotate_left
         ·simp only [Act.put,List.setIfInBounds_toArray,List.set_cons_zero,List.set_cons_succ,i64_w,i32_w]
          rfl
         refine pure_ (i:=20) (N:=some 37) (v:=?_) (a':=?_) #[true,true,true,true,true,true,true,true,true,true,true,true,true,true,true,true,false,true,true,true,true,false,false,false,false,false,false,false,false,false,false,false,false,false,false,false,false,false,false] rfl rfl (any_of HT_.out (by kernel_rfl)) (fun _ _ _ h=>h) (Or.inl ⟨by rfl,?_⟩) ?_ ?_
         rotate_left
         ·intro w'
          go_simp
          with_reducible rfl
         rotate_left
         ·simp only [Act.put,List.setIfInBounds_toArray,List.set_cons_zero,List.set_cons_succ,i64_w,i32_w]
          rfl
         refine take_ (i:=16) (N:=some 33) (v:=?_) (a':=?_) #[true,true,true,true,true,true,true,true,true,true,true,true,true,true,true,true,true,true,true,true,true,false,false,false,false,false,false,false,false,false,false,false,false,false,false,false,false,false,false] rfl rfl (take_ofW HT_.out HW_.out (by kernel_rfl)) (fun _ _ _ h=>h) (Or.inl ⟨by rfl,?_⟩) hHeld ?_ ?_
         rotate_left
         ·rintro w' ⟨s0,s1,s2,s3,s4,s5,s6,s7,s8,s9,s10,s11⟩
          go_simp
          with_reducible rfl
         rotate_left
         ·simp only [Act.put,List.setIfInBounds_toArray,List.set_cons_zero,List.set_cons_succ,i64_w,i32_w]
          rfl
         refine take_ (i:=21) (N:=some 38) (v:=?_) (a':=?_) #[true,true,true,true,true,true,true,true,true,true,true,true,true,true,true,true,true,true,true,true,true,true,false,false,false,false,false,false,false,false,false,false,false,false,false,false,false,false,false] rfl rfl (take_ofW HT_.out HW_.out (by kernel_rfl)) (fun _ _ _ h=>h) (Or.inl ⟨by rfl,?_⟩) hHeld ?_ ?_
         rotate_left
         ·rintro w' ⟨s0,s1,s2,s3,s4,s5,s6,s7,s8,s9,s10,s11⟩
          go_simp
          with_reducible rfl
         rotate_left
         ·simp only [Act.put,List.setIfInBounds_toArray,List.set_cons_zero,List.set_cons_succ,i64_w,i32_w]
          rfl
         refine one_ (i:=22) (N:=some 39) #[true,true,true,true,true,true,true,true,true,true,true,true,true,true,true,true,true,true,true,true,true,true,true,false,false,false,false,false,false,false,false,false,false,false,false,false,false,false,false] rfl rfl (one_of HT_.out (by kernel_rfl)) (by decide) (fun K hK=>?_)
         refine goes_ Tryz.func47 (by kernel_rfl) rfl #[.slice A375_1 ((rd_T82 l0 x5_1).f1).length c375_1,.slice A376_1 ((rd_T82 l1 x5_1).f1).length c376_1] (by rfl) rfl rfl (by (try simp only [List.map_toArray,List.map_cons,List.map_nil]);first | done | rfl | (simp only [List.length_drop,List.length_take];rfl)) ?_
         with_reducible refine (r07_SameAll.calls k1 _ _ ((rd_T82 l0 x5_1).f1) _ _ ((rd_T82 l1 x5_1).f1) false _ ?side1 ?side2 ?side3 ?side4 A8.out).mono ?_
         (case side1=>repeat (first | exact (Kd.C_below HR377_1.out HB.out) | (with_reducible refine Kd.C_alloc ?_ _) | (with_reducible refine Kd.C_drewN ?_ _) | (with_reducible refine Kd.C_drew ?_)))
         (case side2=>exact HC377_1.out)
         (case side3=>repeat (first | exact (Kd.C_below HR378_1.out HB.out) | (with_reducible refine Kd.C_alloc ?_ _) | (with_reducible refine Kd.C_drewN ?_ _) | (with_reducible refine Kd.C_drew ?_)))
         (case side4=>exact HC378_1.out)
         rintro e w19 ⟨rfl,hb⟩
         refine ⟨_,rfl,?_⟩
         have n0_:=As.mk (bS (by repeat (first | (with_reducible first | exact HB.out | apply bA | apply bN | apply bD) | exact HB.out)) hb)
         clear HB
         have HB:=n0_
         clear n0_
         (try clear hb)
         (try clear hb2)
         (try clear hk)
         (try clear hi)
         refine hK.out _ _ ⟨((HB.out.cell (World.block_lt_of_cell? w _ hw375_0)).trans hw375_0),((HB.out.cell (World.block_lt_of_cell? w _ hw375_1)).trans hw375_1),((HB.out.cell (World.block_lt_of_cell? w _ hw375_2)).trans hw375_2),((HB.out.cell (World.block_lt_of_cell? w _ hw376_0)).trans hw376_0),((HB.out.cell (World.block_lt_of_cell? w _ hw376_1)).trans hw376_1),((HB.out.cell (World.block_lt_of_cell? w _ hw376_2)).trans hw376_2),((HB.out.cell (World.block_lt_of_cell? w _ hw377_0)).trans hw377_0),((HB.out.cell (World.block_lt_of_cell? w _ hw377_1)).trans hw377_1),((HB.out.cell (World.block_lt_of_cell? w _ hw377_2)).trans hw377_2),((HB.out.cell (World.block_lt_of_cell? w _ hw378_0)).trans hw378_0),((HB.out.cell (World.block_lt_of_cell? w _ hw378_1)).trans hw378_1),((HB.out.cell (World.block_lt_of_cell? w _ hw378_2)).trans hw378_2)⟩ (fun hHeld=>?_)
         clear hK K
         refine norm_ (a':=?_) ?_ ?_
         rotate_left
         ·show Act.put _ (some 39) _ = _
          simp only [Act.put,List.setIfInBounds_toArray,List.set_cons_zero,List.set_cons_succ,i64_w,i32_w]
          rfl
         refine pure_ (i:=23) (N:=some 40) (v:=?_) (a':=?_) #[true,true,true,true,true,true,true,true,true,true,true,true,true,true,true,true,true,true,true,true,true,true,true,true,false,false,false,false,false,false,false,false,false,false,false,false,false,false,false] rfl rfl (any_of HT_.out (by kernel_rfl)) (fun _ _ _ h=>h) (Or.inl ⟨by rfl,?_⟩) ?_ ?_
         rotate_left
         ·intro w'
          go_simp
          with_reducible rfl
         rotate_left
         ·simp only [Act.put,List.setIfInBounds_toArray,List.set_cons_zero,List.set_cons_succ,i64_w,i32_w]
          rfl
         refine pure_ (i:=24) (N:=some 41) (v:=?_) (a':=?_) #[true,true,true,true,true,true,true,true,true,true,true,true,true,true,true,true,true,true,true,true,true,true,true,true,true,false,false,false,false,false,false,false,false,false,false,false,false,false,false] rfl rfl (any_of HT_.out (by kernel_rfl)) (fun _ _ _ h=>h) (Or.inl ⟨by rfl,?_⟩) ?_ ?_
         rotate_left
         ·intro w'
          go_simp
          with_reducible rfl
         rotate_left
         ·simp only [Act.put,List.setIfInBounds_toArray,List.set_cons_zero,List.set_cons_succ,i64_w,i32_w]
          rfl
         refine pure_ (i:=25) (N:=some 42) (v:=?_) (a':=?_) #[true,true,true,true,true,true,true,true,true,true,true,true,true,true,true,true,true,true,true,true,true,true,true,true,true,true,false,false,false,false,false,false,false,false,false,false,false,false,false] rfl rfl (any_of HT_.out (by kernel_rfl)) (fun _ _ _ h=>h) (Or.inl ⟨by rfl,?_⟩) ?_ ?_
         rotate_left
         ·intro w'
          go_simp
          with_reducible rfl
         rotate_left
         ·simp only [Act.put,List.setIfInBounds_toArray,List.set_cons_zero,List.set_cons_succ,i64_w,i32_w]
          rfl
         refine pure_ (i:=26) (N:=some 43) (v:=undef) (a':=?_) #[true,true,true,true,true,true,true,true,true,true,true,true,true,true,true,true,true,true,true,true,true,true,true,true,true,true,true,false,false,false,false,false,false,false,false,false,false,false,false] rfl rfl (any_of HT_.out (by kernel_rfl)) (fun _ _ _ h=>h) (Or.inr ⟨by rfl,rfl⟩) ?_ ?_
         rotate_left
         ·simp only [Act.put,List.setIfInBounds_toArray,List.set_cons_zero,List.set_cons_succ,i64_w,i32_w]
          rfl
         refine pure_ (i:=27) (N:=some 44) (v:=undef) (a':=?_) #[true,true,true,true,true,true,true,true,true,true,true,true,true,true,true,true,true,true,true,true,true,true,true,true,true,true,true,true,false,false,false,false,false,false,false,false,false,false,false] rfl rfl (any_of HT_.out (by kernel_rfl)) (fun _ _ _ h=>h) (Or.inr ⟨by rfl,rfl⟩) ?_ ?_
         rotate_left
         ·simp only [Act.put,List.setIfInBounds_toArray,List.set_cons_zero,List.set_cons_succ,i64_w,i32_w]
          rfl
         refine pure_ (i:=28) (N:=some 45) (v:=undef) (a':=?_) #[true,true,true,true,true,true,true,true,true,true,true,true,true,true,true,true,true,true,true,true,true,true,true,true,true,true,true,true,true,false,false,false,false,false,false,false,false,false,false] rfl rfl (any_of HT_.out (by kernel_rfl)) (fun _ _ _ h=>h) (Or.inr ⟨by rfl,rfl⟩) ?_ ?_
         rotate_left
         ·simp only [Act.put,List.setIfInBounds_toArray,List.set_cons_zero,List.set_cons_succ,i64_w,i32_w]
          rfl
         refine pure_ (i:=29) (N:=some 46) (v:=undef) (a':=?_) #[true,true,true,true,true,true,true,true,true,true,true,true,true,true,true,true,true,true,true,true,true,true,true,true,true,true,true,true,true,true,false,false,false,false,false,false,false,false,false] rfl rfl (any_of HT_.out (by kernel_rfl)) (fun _ _ _ h=>h) (Or.inr ⟨by rfl,rfl⟩) ?_ ?_
         rotate_left
         ·simp only [Act.put,List.setIfInBounds_toArray,List.set_cons_zero,List.set_cons_succ,i64_w,i32_w]
          rfl
         refine pure_ (i:=30) (N:=some 47) (v:=undef) (a':=?_) #[true,true,true,true,true,true,true,true,true,true,true,true,true,true,true,true,true,true,true,true,true,true,true,true,true,true,true,true,true,true,true,false,false,false,false,false,false,false,false] rfl rfl (any_of HT_.out (by kernel_rfl)) (fun _ _ _ h=>h) (Or.inr ⟨by rfl,rfl⟩) ?_ ?_
         rotate_left
         ·simp only [Act.put,List.setIfInBounds_toArray,List.set_cons_zero,List.set_cons_succ,i64_w,i32_w]
          rfl
         refine pure_ (i:=31) (N:=some 48) (v:=undef) (a':=?_) #[true,true,true,true,true,true,true,true,true,true,true,true,true,true,true,true,true,true,true,true,true,true,true,true,true,true,true,true,true,true,true,true,false,false,false,false,false,false,false] rfl rfl (any_of HT_.out (by kernel_rfl)) (fun _ _ _ h=>h) (Or.inr ⟨by rfl,rfl⟩) ?_ ?_
         rotate_left
         ·simp only [Act.put,List.setIfInBounds_toArray,List.set_cons_zero,List.set_cons_succ,i64_w,i32_w]
          rfl
         refine pure_ (i:=32) (N:=some 49) (v:=undef) (a':=?_) #[true,true,true,true,true,true,true,true,true,true,true,true,true,true,true,true,true,true,true,true,true,true,true,true,true,true,true,true,true,true,true,true,true,false,false,false,false,false,false] rfl rfl (any_of HT_.out (by kernel_rfl)) (fun _ _ _ h=>h) (Or.inr ⟨by rfl,rfl⟩) ?_ ?_
         rotate_left
         ·simp only [Act.put,List.setIfInBounds_toArray,List.set_cons_zero,List.set_cons_succ,i64_w,i32_w]
          rfl
         refine pure_ (i:=33) (N:=some 50) (v:=undef) (a':=?_) #[true,true,true,true,true,true,true,true,true,true,true,true,true,true,true,true,true,true,true,true,true,true,true,true,true,true,true,true,true,true,true,true,true,true,false,false,false,false,false] rfl rfl (any_of HT_.out (by kernel_rfl)) (fun _ _ _ h=>h) (Or.inr ⟨by rfl,rfl⟩) ?_ ?_
         rotate_left
         ·simp only [Act.put,List.setIfInBounds_toArray,List.set_cons_zero,List.set_cons_succ,i64_w,i32_w]
          rfl
         refine pure_ (i:=34) (N:=some 51) (v:=undef) (a':=?_) #[true,true,true,true,true,true,true,true,true,true,true,true,true,true,true,true,true,true,true,true,true,true,true,true,true,true,true,true,true,true,true,true,true,true,true,false,false,false,false] rfl rfl (any_of HT_.out (by kernel_rfl)) (fun _ _ _ h=>h) (Or.inr ⟨by rfl,rfl⟩) ?_ ?_
         rotate_left
         ·simp only [Act.put,List.setIfInBounds_toArray,List.set_cons_zero,List.set_cons_succ,i64_w,i32_w]
          rfl
         refine pure_ (i:=35) (N:=some 52) (v:=undef) (a':=?_) #[true,true,true,true,true,true,true,true,true,true,true,true,true,true,true,true,true,true,true,true,true,true,true,true,true,true,true,true,true,true,true,true,true,true,true,true,false,false,false] rfl rfl (any_of HT_.out (by kernel_rfl)) (fun _ _ _ h=>h) (Or.inr ⟨by rfl,rfl⟩) ?_ ?_
         rotate_left
         ·simp only [Act.put,List.setIfInBounds_toArray,List.set_cons_zero,List.set_cons_succ,i64_w,i32_w]
          rfl
         refine pure_ (i:=36) (N:=some 53) (v:=undef) (a':=?_) #[true,true,true,true,true,true,true,true,true,true,true,true,true,true,true,true,true,true,true,true,true,true,true,true,true,true,true,true,true,true,true,true,true,true,true,true,true,false,false] rfl rfl (any_of HT_.out (by kernel_rfl)) (fun _ _ _ h=>h) (Or.inr ⟨by rfl,rfl⟩) ?_ ?_
         rotate_left
         ·simp only [Act.put,List.setIfInBounds_toArray,List.set_cons_zero,List.set_cons_succ,i64_w,i32_w]
          rfl
         refine pure_ (i:=37) (N:=some 54) (v:=undef) (a':=?_) #[true,true,true,true,true,true,true,true,true,true,true,true,true,true,true,true,true,true,true,true,true,true,true,true,true,true,true,true,true,true,true,true,true,true,true,true,true,true,false] rfl rfl (any_of HT_.out (by kernel_rfl)) (fun _ _ _ h=>h) (Or.inr ⟨by rfl,rfl⟩) ?_ ?_
         rotate_left
         ·simp only [Act.put,List.setIfInBounds_toArray,List.set_cons_zero,List.set_cons_succ,i64_w,i32_w]
          rfl
         refine pure_ (i:=38) (N:=some 55) (v:=?_) (a':=?_) #[true,true,true,true,true,true,true,true,true,true,true,true,true,true,true,true,true,true,true,true,true,true,true,true,true,true,true,true,true,true,true,true,true,true,true,true,true,true,true] rfl rfl (any_of HT_.out (by kernel_rfl)) (fun _ _ _ h=>h) (Or.inl ⟨by rfl,?_⟩) ?_ ?_
         rotate_left
         ·intro w'
          go_simp
          with_reducible rfl
         rotate_left
         ·simp only [Act.put,List.setIfInBounds_toArray,List.set_cons_zero,List.set_cons_succ,i64_w,i32_w]
          rfl
         refine done_ (done_of HT_.out (by kernel_rfl)) ?_
         try go_wp2
         go_ret
         exact ⟨by first | rfl | (simp [eN,eS] <;> rfl) | (simp [*,eN,eS] <;> rfl),by repeat (first | (with_reducible first | exact HB.out | apply bA | apply bN | apply bD) | exact HB.out)⟩
       ·rw [if_neg c7] at H
        have c7b0 : (((rd_T82 l0 x5_1).f0).toList == ((rd_T82 l1 x5_1).f0).toList) = false:=beq_eq_false_iff_ne.mpr c7
        have c7b1 : (((rd_T82 l0 x5_1).f0).toList != ((rd_T82 l1 x5_1).f0).toList) = true:=bne_iff_ne.mpr c7
        obtain rfl:=Option.some.inj H
        try go_wp2
        have n0_:=As.mk (bD HB.out)
        clear HB
        have HB:=n0_
        clear n0_
        have p375 : 0 ≤ (x5_1 : Int):=of_decide_eq_true (by first | (with_reducible assumption) | assumption)
        have q375 : x5_1 < (l0.length : Int):=of_decide_eq_true (by first | (with_reducible assumption) | assumption)
        obtain ⟨ad375,A375_1,c375_1,A375_2,c375_2,e375,hx375_0,hx375_1,hx375_2,hl375_1,hi375_1,hl375_2,hi375_2⟩:=at_T82 HR0.out x5_1 p375 q375
        have hw375_2:=hx375_2
        have hw375_1:=hx375_1
        have hw375_0:=hx375_0
        cases e375
        replace hx375_0:=(HB.out.cell (World.block_lt_of_cell? w _ hx375_0)).trans hx375_0
        replace hx375_1:=(HB.out.cell (World.block_lt_of_cell? w _ hx375_1)).trans hx375_1
        replace hx375_2:=(HB.out.cell (World.block_lt_of_cell? w _ hx375_2)).trans hx375_2
        have HR375_1:=As.mk hi375_1
        have HC375_1:=As.mk hl375_1
        clear hi375_1 hl375_1
        have HR375_2:=As.mk hi375_2
        have HC375_2:=As.mk hl375_2
        clear hi375_2 hl375_2
        replace p375:=eq_true p375
        replace q375:=eq_true q375
        have p376 : 0 ≤ (x5_1 : Int):=of_decide_eq_true (by first | (with_reducible assumption) | assumption)
        have q376 : x5_1 < (l1.length : Int):=of_decide_eq_true (by first | (with_reducible assumption) | assumption)
        obtain ⟨ad376,A376_1,c376_1,A376_2,c376_2,e376,hx376_0,hx376_1,hx376_2,hl376_1,hi376_1,hl376_2,hi376_2⟩:=at_T82 HR1.out x5_1 p376 q376
        have hw376_2:=hx376_2
        have hw376_1:=hx376_1
        have hw376_0:=hx376_0
        cases e376
        replace hx376_0:=(HB.out.cell (World.block_lt_of_cell? w _ hx376_0)).trans hx376_0
        replace hx376_1:=(HB.out.cell (World.block_lt_of_cell? w _ hx376_1)).trans hx376_1
        replace hx376_2:=(HB.out.cell (World.block_lt_of_cell? w _ hx376_2)).trans hx376_2
        have HR376_1:=As.mk hi376_1
        have HC376_1:=As.mk hl376_1
        clear hi376_1 hl376_1
        have HR376_2:=As.mk hi376_2
        have HC376_2:=As.mk hl376_2
        clear hi376_2 hl376_2
        replace p376:=eq_true p376
        replace q376:=eq_true q376
        refine start_ (n:=39) (S:=fun w'=>w'.cell? (ad375.add ((x5_1).toNat * 3)) = some (.string ((rd_T82 l0 x5_1).f0)) ∧ w'.cell? ⟨(ad375.add ((x5_1).toNat * 3)).block,(ad375.add ((x5_1).toNat * 3)).off + 1,none⟩ = some (.slice A375_1 ((rd_T82 l0 x5_1).f1).length c375_1) ∧ w'.cell? ⟨(ad375.add ((x5_1).toNat * 3)).block,(ad375.add ((x5_1).toNat * 3)).off + 2,none⟩ = some (.slice A375_2 ((rd_T82 l0 x5_1).f2).length c375_2) ∧ w'.cell? (ad376.add ((x5_1).toNat * 3)) = some (.string ((rd_T82 l1 x5_1).f0)) ∧ w'.cell? ⟨(ad376.add ((x5_1).toNat * 3)).block,(ad376.add ((x5_1).toNat * 3)).off + 1,none⟩ = some (.slice A376_1 ((rd_T82 l1 x5_1).f1).length c376_1) ∧ w'.cell? ⟨(ad376.add ((x5_1).toNat * 3)).block,(ad376.add ((x5_1).toNat * 3)).off + 2,none⟩ = some (.slice A376_2 ((rd_T82 l1 x5_1).f2).length c376_2)) (ds:=[]) #[false,false,false,false,false,false,false,false,false,false,false,false,false,false,false,false,false,false,false,false,false,false,false,false,false,false,false,false,false,false,false,false,false,false,false,false,false,false,false] (by kernel_rfl) rfl rfl ⟨((HB.out.cell (World.block_lt_of_cell? w _ hw375_0)).trans hw375_0),((HB.out.cell (World.block_lt_of_cell? w _ hw375_1)).trans hw375_1),((HB.out.cell (World.block_lt_of_cell? w _ hw375_2)).trans hw375_2),((HB.out.cell (World.block_lt_of_cell? w _ hw376_0)).trans hw376_0),((HB.out.cell (World.block_lt_of_cell? w _ hw376_1)).trans hw376_1),((HB.out.cell (World.block_lt_of_cell? w _ hw376_2)).trans hw376_2)⟩ (fun hHeld=>?_);refine with_tabW r09_Same.tab6 r09_Same.bits6 (fun HT_ HW_=>?_)
        generalize wr.drew = w20 at HB HR375_1 HR375_2 HR376_1 HR376_2 hx375_0 hx375_1 hx375_2 hx376_0 hx376_1 hx376_2 hHeld ⊢
        refine pure_ (i:=0) (N:=some 17) (v:=?_) (a':=?_) #[true,false,false,false,false,false,false,false,false,false,false,false,false,false,false,false,false,false,false,false,false,false,false,false,false,false,false,false,false,false,false,false,false,false,false,false,false,false,false] rfl rfl (any_of HT_.out (by kernel_rfl)) (fun _ _ _ h=>h) (Or.inl ⟨by rfl,?_⟩) ?_ ?_
        rotate_left
        ·intro w'
         go_simp
         with_reducible rfl
        rotate_left
        ·simp only [Act.put,List.setIfInBounds_toArray,List.set_cons_zero,List.set_cons_succ,i64_w,i32_w]
         rfl
        refine pure_ (i:=1) (N:=some 18) (v:=?_) (a':=?_) #[true,true,false,false,false,false,false,false,false,false,false,false,false,false,false,false,false,false,false,false,false,false,false,false,false,false,false,false,false,false,false,false,false,false,false,false,false,false,false] rfl rfl (any_of HT_.out (by kernel_rfl)) (fun _ _ _ h=>h) (Or.inl ⟨by rfl,?_⟩) ?_ ?_
        rotate_left
        ·intro w'
         go_simp
         with_reducible rfl
        rotate_left
        ·simp only [Act.put,List.setIfInBounds_toArray,List.set_cons_zero,List.set_cons_succ,i64_w,i32_w]
         rfl
        refine pure_ (i:=2) (N:=some 19) (v:=?_) (a':=?_) #[true,true,true,false,false,false,false,false,false,false,false,false,false,false,false,false,false,false,false,false,false,false,false,false,false,false,false,false,false,false,false,false,false,false,false,false,false,false,false] rfl rfl (any_of HT_.out (by kernel_rfl)) (fun _ _ _ h=>h) (Or.inl ⟨by rfl,?_⟩) ?_ ?_
        rotate_left
        ·intro w'
         go_simp
         with_reducible rfl
        rotate_left
        ·simp only [Act.put,List.setIfInBounds_toArray,List.set_cons_zero,List.set_cons_succ,i64_w,i32_w]
         rfl
        refine pure_ (i:=3) (N:=some 20) (v:=?_) (a':=?_) #[true,true,true,true,false,false,false,false,false,false,false,false,false,false,false,false,false,false,false,false,false,false,false,false,false,false,false,false,false,false,false,false,false,false,false,false,false,false,false] rfl rfl (any_of HT_.out (by kernel_rfl)) (fun _ _ _ h=>h) (Or.inl ⟨by rfl,?_⟩) ?_ ?_
        rotate_left
        ·intro w'
         go_simp
         with_reducible rfl
        rotate_left
        ·simp only [Act.put,List.setIfInBounds_toArray,List.set_cons_zero,List.set_cons_succ,i64_w,i32_w]
         rfl
        refine pure_ (i:=5) (N:=some 22) (v:=?_) (a':=?_) #[true,true,true,true,false,true,false,false,false,false,false,false,false,false,false,false,false,false,false,false,false,false,false,false,false,false,false,false,false,false,false,false,false,false,false,false,false,false,false] rfl rfl (any_of HT_.out (by kernel_rfl)) (fun _ _ _ h=>h) (Or.inl ⟨by rfl,?_⟩) ?_ ?_
        rotate_left
        ·intro w'
         go_simp
         with_reducible rfl
        rotate_left
        ·simp only [Act.put,List.setIfInBounds_toArray,List.set_cons_zero,List.set_cons_succ,i64_w,i32_w]
         rfl
        refine pure_ (i:=6) (N:=some 23) (v:=?_) (a':=?_) #[true,true,true,true,false,true,true,false,false,false,false,false,false,false,false,false,false,false,false,false,false,false,false,false,false,false,false,false,false,false,false,false,false,false,false,false,false,false,false] rfl rfl (any_of HT_.out (by kernel_rfl)) (fun _ _ _ h=>h) (Or.inl ⟨by rfl,?_⟩) ?_ ?_
        rotate_left
        ·intro w'
         go_simp
         with_reducible rfl
        rotate_left
        ·simp only [Act.put,List.setIfInBounds_toArray,List.set_cons_zero,List.set_cons_succ,i64_w,i32_w]
         rfl
        refine pure_ (i:=7) (N:=some 24) (v:=?_) (a':=?_) #[true,true,true,true,false,true,true,true,false,false,false,false,false,false,false,false,false,false,false,false,false,false,false,false,false,false,false,false,false,false,false,false,false,false,false,false,false,false,false] rfl rfl (any_of HT_.out (by kernel_rfl)) (fun _ _ _ h=>h) (Or.inl ⟨by rfl,?_⟩) ?_ ?_
        rotate_left
        ·intro w'
         go_simp
         with_reducible rfl
        rotate_left
        ·simp only [Act.put,List.setIfInBounds_toArray,List.set_cons_zero,List.set_cons_succ,i64_w,i32_w]
         rfl
        refine pure_ (i:=8) (N:=some 25) (v:=?_) (a':=?_) #[true,true,true,true,false,true,true,true,true,false,false,false,false,false,false,false,false,false,false,false,false,false,false,false,false,false,false,false,false,false,false,false,false,false,false,false,false,false,false] rfl rfl (any_of HT_.out (by kernel_rfl)) (fun _ _ _ h=>h) (Or.inl ⟨by rfl,?_⟩) ?_ ?_
        rotate_left
        ·intro w'
         go_simp
         with_reducible rfl
        rotate_left
        ·simp only [Act.put,List.setIfInBounds_toArray,List.set_cons_zero,List.set_cons_succ,i64_w,i32_w]
         rfl
        refine take_ (i:=4) (N:=some 21) (v:=?_) (a':=?_) #[true,true,true,true,true,true,true,true,true,false,false,false,false,false,false,false,false,false,false,false,false,false,false,false,false,false,false,false,false,false,false,false,false,false,false,false,false,false,false] rfl rfl (take_ofW HT_.out HW_.out (by kernel_rfl)) (fun _ _ _ h=>h) (Or.inl ⟨by rfl,?_⟩) hHeld ?_ ?_
        rotate_left
        ·rintro w' ⟨s0,s1,s2,s3,s4,s5⟩
         go_simp
         with_reducible rfl
        rotate_left
        ·simp only [Act.put,List.setIfInBounds_toArray,List.set_cons_zero,List.set_cons_succ,i64_w,i32_w]
         rfl
        refine take_ (i:=9) (N:=some 26) (v:=?_) (a':=?_) #[true,true,true,true,true,true,true,true,true,true,false,false,false,false,false,false,false,false,false,false,false,false,false,false,false,false,false,false,false,false,false,false,false,false,false,false,false,false,false] rfl rfl (take_ofW HT_.out HW_.out (by kernel_rfl)) (fun _ _ _ h=>h) (Or.inl ⟨by rfl,?_⟩) hHeld ?_ ?_
        rotate_left
        ·rintro w' ⟨s0,s1,s2,s3,s4,s5⟩
         go_simp
         with_reducible rfl
        rotate_left
        ·simp only [Act.put,List.setIfInBounds_toArray,List.set_cons_zero,List.set_cons_succ,i64_w,i32_w]
         rfl
        refine pure_ (i:=10) (N:=some 27) (v:=?_) (a':=?_) #[true,true,true,true,true,true,true,true,true,true,true,false,false,false,false,false,false,false,false,false,false,false,false,false,false,false,false,false,false,false,false,false,false,false,false,false,false,false,false] rfl rfl (any_of HT_.out (by kernel_rfl)) (fun _ _ _ h=>h) (Or.inl ⟨by rfl,?_⟩) ?_ ?_
        rotate_left
        ·intro w'
         go_simp
         with_reducible rfl
        rotate_left
        ·simp only [Act.put,List.setIfInBounds_toArray,List.set_cons_zero,List.set_cons_succ,i64_w,i32_w]
         rfl
        refine pure_ (i:=11) (N:=some 28) (v:=?_) (a':=?_) #[true,true,true,true,true,true,true,true,true,true,true,true,false,false,false,false,false,false,false,false,false,false,false,false,false,false,false,false,false,false,false,false,false,false,false,false,false,false,false] rfl rfl (any_of HT_.out (by kernel_rfl)) (fun _ _ _ h=>h) (Or.inl ⟨by rfl,?_⟩) ?_ ?_
        rotate_left
        ·intro w'
         go_simp
         with_reducible rfl
        rotate_left
        ·simp only [Act.put,List.setIfInBounds_toArray,List.set_cons_zero,List.set_cons_succ,i64_w,i32_w]
         rfl
        refine pure_ (i:=12) (N:=some 29) (v:=undef) (a':=?_) #[true,true,true,true,true,true,true,true,true,true,true,true,true,false,false,false,false,false,false,false,false,false,false,false,false,false,false,false,false,false,false,false,false,false,false,false,false,false,false] rfl rfl (any_of HT_.out (by kernel_rfl)) (fun _ _ _ h=>h) (Or.inr ⟨by rfl,rfl⟩) ?_ ?_
        rotate_left
        ·simp only [Act.put,List.setIfInBounds_toArray,List.set_cons_zero,List.set_cons_succ,i64_w,i32_w]
         rfl
        refine pure_ (i:=13) (N:=some 30) (v:=undef) (a':=?_) #[true,true,true,true,true,true,true,true,true,true,true,true,true,true,false,false,false,false,false,false,false,false,false,false,false,false,false,false,false,false,false,false,false,false,false,false,false,false,false] rfl rfl (any_of HT_.out (by kernel_rfl)) (fun _ _ _ h=>h) (Or.inr ⟨by rfl,rfl⟩) ?_ ?_
        rotate_left
        ·simp only [Act.put,List.setIfInBounds_toArray,List.set_cons_zero,List.set_cons_succ,i64_w,i32_w]
         rfl
        refine pure_ (i:=14) (N:=some 31) (v:=undef) (a':=?_) #[true,true,true,true,true,true,true,true,true,true,true,true,true,true,true,false,false,false,false,false,false,false,false,false,false,false,false,false,false,false,false,false,false,false,false,false,false,false,false] rfl rfl (any_of HT_.out (by kernel_rfl)) (fun _ _ _ h=>h) (Or.inr ⟨by rfl,rfl⟩) ?_ ?_
        rotate_left
        ·simp only [Act.put,List.setIfInBounds_toArray,List.set_cons_zero,List.set_cons_succ,i64_w,i32_w]
         rfl
        refine pure_ (i:=15) (N:=some 32) (v:=undef) (a':=?_) #[true,true,true,true,true,true,true,true,true,true,true,true,true,true,true,true,false,false,false,false,false,false,false,false,false,false,false,false,false,false,false,false,false,false,false,false,false,false,false] rfl rfl (any_of HT_.out (by kernel_rfl)) (fun _ _ _ h=>h) (Or.inr ⟨by rfl,rfl⟩) ?_ ?_
        rotate_left
        ·simp only [Act.put,List.setIfInBounds_toArray,List.set_cons_zero,List.set_cons_succ,i64_w,i32_w]
         rfl
        refine pure_ (i:=16) (N:=some 33) (v:=undef) (a':=?_) #[true,true,true,true,true,true,true,true,true,true,true,true,true,true,true,true,true,false,false,false,false,false,false,false,false,false,false,false,false,false,false,false,false,false,false,false,false,false,false] rfl rfl (any_of HT_.out (by kernel_rfl)) (fun _ _ _ h=>h) (Or.inr ⟨by rfl,rfl⟩) ?_ ?_
        rotate_left
        ·simp only [Act.put,List.setIfInBounds_toArray,List.set_cons_zero,List.set_cons_succ,i64_w,i32_w]
         rfl
        refine pure_ (i:=17) (N:=some 34) (v:=undef) (a':=?_) #[true,true,true,true,true,true,true,true,true,true,true,true,true,true,true,true,true,true,false,false,false,false,false,false,false,false,false,false,false,false,false,false,false,false,false,false,false,false,false] rfl rfl (any_of HT_.out (by kernel_rfl)) (fun _ _ _ h=>h) (Or.inr ⟨by rfl,rfl⟩) ?_ ?_
        rotate_left
        ·simp only [Act.put,List.setIfInBounds_toArray,List.set_cons_zero,List.set_cons_succ,i64_w,i32_w]
         rfl
        refine pure_ (i:=18) (N:=some 35) (v:=undef) (a':=?_) #[true,true,true,true,true,true,true,true,true,true,true,true,true,true,true,true,true,true,true,false,false,false,false,false,false,false,false,false,false,false,false,false,false,false,false,false,false,false,false] rfl rfl (any_of HT_.out (by kernel_rfl)) (fun _ _ _ h=>h) (Or.inr ⟨by rfl,rfl⟩) ?_ ?_
        rotate_left
        ·simp only [Act.put,List.setIfInBounds_toArray,List.set_cons_zero,List.set_cons_succ,i64_w,i32_w]
         rfl
        refine pure_ (i:=19) (N:=some 36) (v:=undef) (a':=?_) #[true,true,true,true,true,true,true,true,true,true,true,true,true,true,true,true,true,true,true,true,false,false,false,false,false,false,false,false,false,false,false,false,false,false,false,false,false,false,false] rfl rfl (any_of HT_.out (by kernel_rfl)) (fun _ _ _ h=>h) (Or.inr ⟨by rfl,rfl⟩) ?_ ?_
        rotate_left
        ·simp only [Act.put,List.setIfInBounds_toArray,List.set_cons_zero,List.set_cons_succ,i64_w,i32_w]
         rfl
        refine pure_ (i:=20) (N:=some 37) (v:=undef) (a':=?_) #[true,true,true,true,true,true,true,true,true,true,true,true,true,true,true,true,true,true,true,true,true,false,false,false,false,false,false,false,false,false,false,false,false,false,false,false,false,false,false] rfl rfl (any_of HT_.out (by kernel_rfl)) (fun _ _ _ h=>h) (Or.inr ⟨by rfl,rfl⟩) ?_ ?_
        rotate_left
        ·simp only [Act.put,List.setIfInBounds_toArray,List.set_cons_zero,List.set_cons_succ,i64_w,i32_w]
         rfl
        refine pure_ (i:=21) (N:=some 38) (v:=undef) (a':=?_) #[true,true,true,true,true,true,true,true,true,true,true,true,true,true,true,true,true,true,true,true,true,true,false,false,false,false,false,false,false,false,false,false,false,false,false,false,false,false,false] rfl rfl (any_of HT_.out (by kernel_rfl)) (fun _ _ _ h=>h) (Or.inr ⟨by rfl,rfl⟩) ?_ ?_
        rotate_left
        ·simp only [Act.put,List.setIfInBounds_toArray,List.set_cons_zero,List.set_cons_succ,i64_w,i32_w]
         rfl
        refine pure_ (i:=22) (N:=some 39) (v:=undef) (a':=?_) #[true,true,true,true,true,true,true,true,true,true,true,true,true,true,true,true,true,true,true,true,true,true,true,false,false,false,false,false,false,false,false,false,false,false,false,false,false,false,false] rfl rfl (any_of HT_.out (by kernel_rfl)) (fun _ _ _ h=>h) (Or.inr ⟨by rfl,rfl⟩) ?_ ?_
        rotate_left
        ·simp only [Act.put,List.setIfInBounds_toArray,List.set_cons_zero,List.set_cons_succ,i64_w,i32_w]
         rfl
        refine pure_ (i:=23) (N:=some 40) (v:=undef) (a':=?_) #[true,true,true,true,true,true,true,true,true,true,true,true,true,true,true,true,true,true,true,true,true,true,true,true,false,false,false,false,false,false,false,false,false,false,false,false,false,false,false] rfl rfl (any_of HT_.out (by kernel_rfl)) (fun _ _ _ h=>h) (Or.inr ⟨by rfl,rfl⟩) ?_ ?_
        rotate_left
        ·simp only [Act.put,List.setIfInBounds_toArray,List.set_cons_zero,List.set_cons_succ,i64_w,i32_w]
         rfl
        refine pure_ (i:=24) (N:=some 41) (v:=?_) (a':=?_) #[true,true,true,true,true,true,true,true,true,true,true,true,true,true,true,true,true,true,true,true,true,true,true,true,true,false,false,false,false,false,false,false,false,false,false,false,false,false,false] rfl rfl (any_of HT_.out (by kernel_rfl)) (fun _ _ _ h=>h) (Or.inl ⟨by rfl,?_⟩) ?_ ?_
        rotate_left
        ·intro w'
         go_simp
         with_reducible rfl
        rotate_left
        ·simp only [Act.put,List.setIfInBounds_toArray,List.set_cons_zero,List.set_cons_succ,i64_w,i32_w]
         rfl
        refine pure_ (i:=25) (N:=some 42) (v:=?_) (a':=?_) #[true,true,true,true,true,true,true,true,true,true,true,true,true,true,true,true,true,true,true,true,true,true,true,true,true,true,false,false,false,false,false,false,false,false,false,false,false,false,false] rfl rfl (any_of HT_.out (by kernel_rfl)) (fun _ _ _ h=>h) (Or.inl ⟨by rfl,?_⟩) ?_ ?_
        rotate_left
        ·intro w'
         go_simp
         with_reducible rfl
        rotate_left
        ·simp only [Act.put,List.setIfInBounds_toArray,List.set_cons_zero,List.set_cons_succ,i64_w,i32_w]
         rfl
        refine pure_ (i:=26) (N:=some 43) (v:=undef) (a':=?_) #[true,true,true,true,true,true,true,true,true,true,true,true,true,true,true,true,true,true,true,true,true,true,true,true,true,true,true,false,false,false,false,false,false,false,false,false,false,false,false] rfl rfl (any_of HT_.out (by kernel_rfl)) (fun _ _ _ h=>h) (Or.inr ⟨by rfl,rfl⟩) ?_ ?_
        rotate_left
        ·simp only [Act.put,List.setIfInBounds_toArray,List.set_cons_zero,List.set_cons_succ,i64_w,i32_w]
         rfl
        refine pure_ (i:=27) (N:=some 44) (v:=undef) (a':=?_) #[true,true,true,true,true,true,true,true,true,true,true,true,true,true,true,true,true,true,true,true,true,true,true,true,true,true,true,true,false,false,false,false,false,false,false,false,false,false,false] rfl rfl (any_of HT_.out (by kernel_rfl)) (fun _ _ _ h=>h) (Or.inr ⟨by rfl,rfl⟩) ?_ ?_
        rotate_left
        ·simp only [Act.put,List.setIfInBounds_toArray,List.set_cons_zero,List.set_cons_succ,i64_w,i32_w]
         rfl
        refine pure_ (i:=28) (N:=some 45) (v:=undef) (a':=?_) #[true,true,true,true,true,true,true,true,true,true,true,true,true,true,true,true,true,true,true,true,true,true,true,true,true,true,true,true,true,false,false,false,false,false,false,false,false,false,false] rfl rfl (any_of HT_.out (by kernel_rfl)) (fun _ _ _ h=>h) (Or.inr ⟨by rfl,rfl⟩) ?_ ?_
        rotate_left
        ·simp only [Act.put,List.setIfInBounds_toArray,List.set_cons_zero,List.set_cons_succ,i64_w,i32_w]
         rfl
        refine pure_ (i:=29) (N:=some 46) (v:=undef) (a':=?_) #[true,true,true,true,true,true,true,true,true,true,true,true,true,true,true,true,true,true,true,true,true,true,true,true,true,true,true,true,true,true,false,false,false,false,false,false,false,false,false] rfl rfl (any_of HT_.out (by kernel_rfl)) (fun _ _ _ h=>h) (Or.inr ⟨by rfl,rfl⟩) ?_ ?_
        rotate_left
        ·simp only [Act.put,List.setIfInBounds_toArray,List.set_cons_zero,List.set_cons_succ,i64_w,i32_w]
         rfl
        refine pure_ (i:=30) (N:=some 47) (v:=undef) (a':=?_) #[true,true,true,true,true,true,true,true,true,true,true,true,true,true,true,true,true,true,true,true,true,true,true,true,true,true,true,true,true,true,true,false,false,false,false,false,false,false,false] rfl rfl (any_of HT_.out (by kernel_rfl)) (fun _ _ _ h=>h) (Or.inr ⟨by rfl,rfl⟩) ?_ ?_
        rotate_left
        ·simp only [Act.put,List.setIfInBounds_toArray,List.set_cons_zero,List.set_cons_succ,i64_w,i32_w]
         rfl
        refine pure_ (i:=31) (N:=some 48) (v:=undef) (a':=?_) #[true,true,true,true,true,true,true,true,true,true,true,true,true,true,true,true,true,true,true,true,true,true,true,true,true,true,true,true,true,true,true,true,false,false,false,false,false,false,false] rfl rfl (any_of HT_.out (by kernel_rfl)) (fun _ _ _ h=>h) (Or.inr ⟨by rfl,rfl⟩) ?_ ?_
        rotate_left
        ·simp only [Act.put,List.setIfInBounds_toArray,List.set_cons_zero,List.set_cons_succ,i64_w,i32_w]
         rfl
        refine pure_ (i:=32) (N:=some 49) (v:=undef) (a':=?_) #[true,true,true,true,true,true,true,true,true,true,true,true,true,true,true,true,true,true,true,true,true,true,true,true,true,true,true,true,true,true,true,true,true,false,false,false,false,false,false] rfl rfl (any_of HT_.out (by kernel_rfl)) (fun _ _ _ h=>h) (Or.inr ⟨by rfl,rfl⟩) ?_ ?_
        rotate_left
        ·simp only [Act.put,List.setIfInBounds_toArray,List.set_cons_zero,List.set_cons_succ,i64_w,i32_w]
         rfl
        refine pure_ (i:=33) (N:=some 50) (v:=undef) (a':=?_) #[true,true,true,true,true,true,true,true,true,true,true,true,true,true,true,true,true,true,true,true,true,true,true,true,true,true,true,true,true,true,true,true,true,true,false,false,false,false,false] rfl rfl (any_of HT_.out (by kernel_rfl)) (fun _ _ _ h=>h) (Or.inr ⟨by rfl,rfl⟩) ?_ ?_
        rotate_left
        ·simp only [Act.put,List.setIfInBounds_toArray,List.set_cons_zero,List.set_cons_succ,i64_w,i32_w]
         rfl
        refine pure_ (i:=34) (N:=some 51) (v:=undef) (a':=?_) #[true,true,true,true,true,true,true,true,true,true,true,true,true,true,true,true,true,true,true,true,true,true,true,true,true,true,true,true,true,true,true,true,true,true,true,false,false,false,false] rfl rfl (any_of HT_.out (by kernel_rfl)) (fun _ _ _ h=>h) (Or.inr ⟨by rfl,rfl⟩) ?_ ?_
        rotate_left
        ·simp only [Act.put,List.setIfInBounds_toArray,List.set_cons_zero,List.set_cons_succ,i64_w,i32_w]
         rfl
        refine pure_ (i:=35) (N:=some 52) (v:=undef) (a':=?_) #[true,true,true,true,true,true,true,true,true,true,true,true,true,true,true,true,true,true,true,true,true,true,true,true,true,true,true,true,true,true,true,true,true,true,true,true,false,false,false] rfl rfl (any_of HT_.out (by kernel_rfl)) (fun _ _ _ h=>h) (Or.inr ⟨by rfl,rfl⟩) ?_ ?_
        rotate_left
        ·simp only [Act.put,List.setIfInBounds_toArray,List.set_cons_zero,List.set_cons_succ,i64_w,i32_w]
         rfl
        refine pure_ (i:=36) (N:=some 53) (v:=undef) (a':=?_) #[true,true,true,true,true,true,true,true,true,true,true,true,true,true,true,true,true,true,true,true,true,true,true,true,true,true,true,true,true,true,true,true,true,true,true,true,true,false,false] rfl rfl (any_of HT_.out (by kernel_rfl)) (fun _ _ _ h=>h) (Or.inr ⟨by rfl,rfl⟩) ?_ ?_
        rotate_left
        ·simp only [Act.put,List.setIfInBounds_toArray,List.set_cons_zero,List.set_cons_succ,i64_w,i32_w]
         rfl
        refine pure_ (i:=37) (N:=some 54) (v:=undef) (a':=?_) #[true,true,true,true,true,true,true,true,true,true,true,true,true,true,true,true,true,true,true,true,true,true,true,true,true,true,true,true,true,true,true,true,true,true,true,true,true,true,false] rfl rfl (any_of HT_.out (by kernel_rfl)) (fun _ _ _ h=>h) (Or.inr ⟨by rfl,rfl⟩) ?_ ?_
        rotate_left
        ·simp only [Act.put,List.setIfInBounds_toArray,List.set_cons_zero,List.set_cons_succ,i64_w,i32_w]
         rfl
        refine pure_ (i:=38) (N:=some 55) (v:=?_) (a':=?_) #[true,true,true,true,true,true,true,true,true,true,true,true,true,true,true,true,true,true,true,true,true,true,true,true,true,true,true,true,true,true,true,true,true,true,true,true,true,true,true] rfl rfl (any_of HT_.out (by kernel_rfl)) (fun _ _ _ h=>h) (Or.inl ⟨by rfl,?_⟩) ?_ ?_
        rotate_left
        ·intro w'
         go_simp
         with_reducible rfl
        rotate_left
        ·simp only [Act.put,List.setIfInBounds_toArray,List.set_cons_zero,List.set_cons_succ,i64_w,i32_w]
         rfl
        refine done_ (done_of HT_.out (by kernel_rfl)) ?_
        try go_wp2
        go_ret
        exact ⟨by first | rfl | (simp [eN,eS] <;> rfl) | (simp [*,eN,eS] <;> rfl),by repeat (first | (with_reducible first | exact HB.out | apply bA | apply bN | apply bD) | exact HB.out)⟩
      ·rw [if_neg c6] at H
       exact absurd H (by simp)
     ·rw [if_neg c5] at H
      exact absurd H (by simp)
    ·rw [if_neg c4] at H
     have c4b0 : decide (x5_1 < (l0.length : Int)) = false:=decide_eq_false c4
     clear c4
     obtain rfl:=Option.some.inj H
     go_wp2
     go_ret
     exact ⟨by first | rfl | (simp [eN,eS] <;> rfl) | (simp [*,eN,eS] <;> rfl),by repeat (first | (with_reducible first | exact HB.out | apply bA | apply bN | apply bD) | exact HB.out)⟩
 ·rw [if_neg c3] at H
  have c3b0 : ((l0.length : Int) == (l1.length : Int)) = false:=beq_eq_false_iff_ne.mpr c3
  have c3b1 : ((l0.length : Int) != (l1.length : Int)) = true:=bne_iff_ne.mpr c3
  have c3b2 : (l0.length == l1.length) = false:=by first | simpa using c3 | (simp at c3 ⊢;omega)
  obtain rfl:=Option.some.inj H
  go_enter Tryz.func29,Tryz.ntmps29
  go_wp2
  go_ret
  exact ⟨by first | rfl | (simp [eN,eS] <;> rfl) | (simp [*,eN,eS] <;> rfl),by repeat (first | (with_reducible first | exact HB.out | apply bA | apply bN | apply bD) | exact HB.out)⟩
end Go.Proofs.YtmlebgikdegjjaaGreatDoor.PAll
