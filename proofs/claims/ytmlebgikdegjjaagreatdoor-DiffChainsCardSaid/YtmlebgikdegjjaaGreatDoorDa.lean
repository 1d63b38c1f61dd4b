/- Rows of definitions held against each other: slices.EqualFunc, diff.same. -/
import Derived.Test.YtmlebgikdegjjaaGreatDoorUd
import Derived.Test.YtmlebgikdegjjaaGreatDoorPAllx8
set_option maxHeartbeats 16000000
set_option maxRecDepth 100000
namespace Go.Proofs.YtmlebgikdegjjaaGreatDoor.Hd
open Go.Maps Go.RowKit Go.Proofs.YtmlebgikdegjjaaGreatDoorW.PrintWords Go.Proofs.YtmlebgikdegjjaaGreatDoorW.PrintLast Go.Proofs.YtmlebgikdegjjaaGreatDoorW.PrintMore Go.Proofs.YtmlebgikdegjjaaGreatDoor.PAll
attribute [local go_sem] max2_int min2_int max_two min_two max_three min_three max_four min_four
set_option linter.unusedVariables false
set_option linter.unusedSimpArgs false
theorem alike_next (sm : S34 → S34 → Bool) : ∀ (l m : List S34) (n : Nat) (x y : S34),l[n]? = some x → m[n]? = some y → alike sm (l.take (n + 1)) (m.take (n + 1)) = (alike sm (l.take n) (m.take n) && sm x y)
 | [],_,n,_,_,h,_=>by cases n <;> cases h
 | _ :: _,[],n,_,_,_,h=>by cases n <;> cases h
 | a :: l,b :: m,0,x,y,h1,h2=>by
  cases h1;cases h2
  show (sm a b && alike sm (l.take 0) (m.take 0)) = _
  rw [List.take_zero,List.take_zero]
  show (sm a b && true) = (true && sm a b)
  rw [Bool.and_true,Bool.true_and]
 | a :: l,b :: m,n + 1,x,y,h1,h2=>by
  show (sm a b && alike sm (l.take (n + 1)) (m.take (n + 1))) = ((sm a b && alike sm (l.take n) (m.take n)) && sm x y)
  rw [alike_next sm l m n x y h1 h2,Bool.and_assoc]
theorem alike_false {sm : S34 → S34 → Bool} {l m : List S34} (n : Nat) (h : alike sm (l.take n) (m.take n) = false) : alike sm l m = false:=by
 cases hh : alike sm l m with
 | false=>rfl
 | true=>rw [alike_take sm n l m hh] at h;cases h
theorem eqs_calls (sm : S34 → S34 → Bool) (k : Nat) (w : World) (A1 : Option Addr) (c1 : Nat) (l : List S34) (A2 : Option Addr) (c2 : Nat) (m : List S34) (h1 : Kd.C k34 w A1 l.length l) (h2 : Kd.C k34 w A2 m.length m) (hl : l.length ≤ 1000000)
  (hsm : ∀ x ∈ l,∀ y ∈ m,def_Same.f k x.f0 x.f1 x.f2 x.f3 x.f4 x.f5 y.f0 y.f1 y.f2 y.f3 y.f4 y.f5 = some (sm x y)) :
  Calls Tryz.prog 115 #[.slice A1 l.length c1,.slice A2 m.length c2,.func (.func 76) #[] #[]] w fun e w'=>e = .returned (.bool (alike sm l m)) ∧ Below w.heap.size w w':=by
 have hu34:=Tryz.underlying34
 have HSM:=As.mk hsm
 have H1:=As.mk h1
 have H2:=As.mk h2
 have HLL:=As.mk hl
 have HB:=As.mk (Below.refl w.heap.size w)
 clear hsm h1 h2 hl
 by_cases hlen : l.length = m.length
 case neg =>
  have z1 : ((l.length : Int) != (m.length : Int)) = true:=bne_iff_ne.mpr (by omega)
  have HR:=As.mk (alike_len sm l m hlen)
  clear hlen
  go_enter Tryz.func115,Tryz.ntmps115
  go_wp2_with (fail)
  go_ret
  refine ⟨?_,(by repeat (first | (with_reducible first | exact HB.out | apply bA | apply bN | apply bD) | exact HB.out))⟩
  rw [HR.out]
  rfl
 case pos =>
  have z1 : ((l.length : Int) != (m.length : Int)) = false:=bne_eq_false_iff_eq.mpr (by omega)
  have HLEN:=As.mk hlen
  clear hlen
  go_enter Tryz.func115,Tryz.ntmps115
  go_wp2_with (fail)
  go_loopg [17] l.length (fun kq v17 w'=>∃ n : Nat,v17 = .int .i64 (n : Int) ∧ n ≤ l.length ∧ As (kq + n = l.length) ∧ As (alike sm (l.take n) (m.take n) = true) ∧ As (Below w.heap.size w w'))
  case atStart=>exact ⟨0,rfl,Nat.zero_le _,⟨rfl⟩,⟨by rw [List.take_zero,List.take_zero];rfl⟩,HB⟩
  case round =>
   clear HB z1
   obtain ⟨n,rfl,p1,HKQ,HAL,HB⟩:=hrel
   by_cases hlt : n < l.length
   case neg =>
    have c0_ : decide ((n : Int) < (l.length : Int)) = false:=decide_eq_false (by omega)
    have HN:=As.mk (show alike sm l m = true by
     have h_:=HAL.out
     rw [List.take_of_length_le (by omega),List.take_of_length_le (by have:=HLEN.out;omega)] at h_
     exact h_)
    go_wp2_with (fail)
    go_ret
    refine ⟨?_,HB.out⟩
    rw [HN.out]
    rfl
   case pos =>
    have hltm : n < m.length:=by have:=HLEN.out;omega
    obtain ⟨x,hx⟩ : ∃ x,x = l[n]:=⟨_,rfl⟩
    obtain ⟨y,hy⟩ : ∃ y,y = m[n]:=⟨_,rfl⟩
    have HB1:=As.mk (Below.refl wr.heap.size wr)
    have hc1_:=Kd.C_below H1.out HB.out
    obtain ⟨adx,Ax,cx,e_,x0,x1,x2,x3,x4,x5,hl_,hC_⟩:=at_T34 hc1_ (n : Int) (by omega) (by omega)
    rw [show rd_T34 l (n : Int) = x by rw [hx];unfold rd_T34;rw [Int.toNat_natCast,List.getD_eq_getElem?_getD,List.getElem?_eq_getElem (by omega)];rfl] at x0 x1 x2 x3 x4 x5 hl_ hC_
    rw [Int.toNat_natCast] at x0 x1 x2 x3 x4 x5
    subst e_
    have HLX:=As.mk hl_
    have HCX:=As.mk hC_
    clear hl_ hC_
    have hsm1:=HSM.out x (by rw [hx];exact List.getElem_mem hlt) y (by rw [hy];exact List.getElem_mem hltm)
    have hnx:=alike_next sm l m n x y (by rw [hx];exact List.getElem?_eq_getElem hlt) (by rw [hy];exact List.getElem?_eq_getElem hltm)
    rw [HAL.out,Bool.true_and] at hnx
    obtain ⟨bv,hbv⟩ : ∃ bv,bv = sm x y:=⟨_,rfl⟩
    rw [← hbv] at hsm1 hnx
    have HSM1:=As.mk hsm1
    have HNX:=As.mk hnx
    have HX:=As.mk (show n < l.length ∧ l.length ≤ 1000000 from ⟨hlt,HLL.out⟩)
    have c0_ : decide ((n : Int) < (l.length : Int)) = true:=decide_eq_true (by omega)
    have p1_ : ((n : Int) < (l.length : Int)) = True:=eq_true (by omega)
    have p2_ : (n < l.length) = True:=eq_true hlt
    have p3_ : ((n : Int) < (m.length : Int)) = True:=eq_true (by omega)
    have p4_ : (n < m.length) = True:=eq_true hltm
    have hw1 : wrap64 ((n : Int) + 1) = ((n + 1 : Nat) : Int):=by rw [IntWalk.wrap64_in _ (by have:=HX.out;omega)];omega
    clear hx hbv hsm1 hnx hc1_ hlt p1
    go_upto_region 6 with (fail)
    have bk8:=blk_new wr (Obj.cells #[.int .i64 x.f0,.string x.f1,.string x.f2,.slice Ax x.f3.length cx,.string x.f4,.string x.f5] 34)
    have hb_:=bA (Below.refl wr.heap.size wr) (Obj.cells #[.int .i64 x.f0,.string x.f1,.string x.f2,.slice Ax x.f3.length cx,.string x.f4,.string x.f5] 34)
    generalize wr.alloc (Obj.cells #[.int .i64 x.f0,.string x.f1,.string x.f2,.slice Ax x.f3.length cx,.string x.f4,.string x.f5] 34) = W1 at bk8 hb_ ⊢
    obtain ⟨g8,hg8⟩ : ∃ g8,g8 = wr.heap.size:=⟨_,rfl⟩
    rw [← hg8] at bk8 ⊢
    clear hg8
    have hc2_:=Kd.C_below (Kd.C_below H2.out HB.out) hb_
    obtain ⟨ady,Ay,cy,e_,y0,y1,y2,y3,y4,y5,hl_,hC_⟩:=at_T34 hc2_ (n : Int) (by omega) (by omega)
    rw [show rd_T34 m (n : Int) = y by rw [hy];unfold rd_T34;rw [Int.toNat_natCast,List.getD_eq_getElem?_getD,List.getElem?_eq_getElem (by omega)];rfl] at y0 y1 y2 y3 y4 y5 hl_ hC_
    rw [Int.toNat_natCast] at y0 y1 y2 y3 y4 y5
    subst e_
    have HLY:=As.mk hl_
    have HCY:=As.mk hC_
    clear hl_ hC_
    have n1_:=As.mk (Kd.C_below HCX.out hb_)
    have n2_:=As.mk (bS HB.out hb_)
    have HB1:=As.mk hb_
    clear HCX HB hb_ x0 x1 x2 x3 x4 x5 hy hc2_
    have HCX:=n1_
    have HB:=n2_
    clear n1_ n2_
    go_upto_region 7 with (fail)
    obtain ⟨W2,hW2⟩ : ∃ W2,W2 = W1.alloc (Obj.cells #[.int .i64 y.f0,.string y.f1,.string y.f2,.slice Ay y.f3.length cy,.string y.f4,.string y.f5] 34):=⟨_,rfl⟩
    have hb_:=bA (Below.refl W1.heap.size W1) (Obj.cells #[.int .i64 y.f0,.string y.f1,.string y.f2,.slice Ay y.f3.length cy,.string y.f4,.string y.f5] 34)
    have bk9:=blk_new W1 (Obj.cells #[.int .i64 y.f0,.string y.f1,.string y.f2,.slice Ay y.f3.length cy,.string y.f4,.string y.f5] 34)
    have bk8':=blk_below bk8 hb_
    rw [← hW2] at hb_ bk9 bk8' ⊢
    obtain ⟨g9,hg9⟩ : ∃ g9,g9 = W1.heap.size:=⟨_,rfl⟩
    rw [← hg9] at bk9 ⊢
    have bk8_0 : W2.cell? ⟨g8,0,none⟩ = some (.int .i64 x.f0):=(bC bk8' 0).trans rfl
    have bk8_1 : W2.cell? ⟨g8,1,none⟩ = some (.string x.f1):=(bC bk8' 1).trans rfl
    have bk8_2 : W2.cell? ⟨g8,2,none⟩ = some (.string x.f2):=(bC bk8' 2).trans rfl
    have bk8_3 : W2.cell? ⟨g8,3,none⟩ = some (.slice Ax x.f3.length cx):=(bC bk8' 3).trans rfl
    have bk8_4 : W2.cell? ⟨g8,4,none⟩ = some (.string x.f4):=(bC bk8' 4).trans rfl
    have bk8_5 : W2.cell? ⟨g8,5,none⟩ = some (.string x.f5):=(bC bk8' 5).trans rfl
    have bk9_0 : W2.cell? ⟨g9,0,none⟩ = some (.int .i64 y.f0):=(bC bk9 0).trans rfl
    have bk9_1 : W2.cell? ⟨g9,1,none⟩ = some (.string y.f1):=(bC bk9 1).trans rfl
    have bk9_2 : W2.cell? ⟨g9,2,none⟩ = some (.string y.f2):=(bC bk9 2).trans rfl
    have bk9_3 : W2.cell? ⟨g9,3,none⟩ = some (.slice Ay y.f3.length cy):=(bC bk9 3).trans rfl
    have bk9_4 : W2.cell? ⟨g9,4,none⟩ = some (.string y.f4):=(bC bk9 4).trans rfl
    have bk9_5 : W2.cell? ⟨g9,5,none⟩ = some (.string y.f5):=(bC bk9 5).trans rfl
    have n1_:=As.mk (Kd.C_below HCX.out hb_)
    have n2_:=As.mk (Kd.C_below HCY.out hb_)
    have n3_:=As.mk (bS HB.out hb_)
    clear HCX HCY HB HB1 hb_ hW2 hg9 bk8 bk9 bk8' y0 y1 y2 y3 y4 y5
    have HCX:=n1_
    have HCY:=n2_
    have HB:=n3_
    have HB1:=As.mk (Below.refl W2.heap.size W2)
    clear n1_ n2_ n3_
    cases bv with
    | true =>
     go_wp2_with (first | (go_at_call 76;(with_reducible refine (def_Same.calls k x.f0 x.f1 x.f2 Ax cx x.f3 x.f4 x.f5 y.f0 y.f1 y.f2 Ay cy y.f3 y.f4 y.f5 _ _ ?s1 HLX.out ?s2 HLY.out HSM1.out).mono ?_);(case s1=>exact Kd.C_below HCX.out (by repeat (first | (with_reducible first | exact HB1.out | apply bA | apply bN | apply bD) | exact HB1.out)));(case s2=>exact Kd.C_below HCY.out (by repeat (first | (with_reducible first | exact HB1.out | apply bA | apply bN | apply bD) | exact HB1.out)));rintro e w5 ⟨rfl,hb_⟩;have n0_:=As.mk (bS (by repeat (first | (with_reducible first | exact HB.out | apply bA | apply bN | apply bD) | exact HB.out)) hb_);clear HB hb_;have HB:=n0_;clear n0_))
     go_roundg (gk - 1)
     case measure=>have:=HKQ.out;have:=HX.out;omega
     case rel=>exact ⟨n + 1,(by first | rfl | rw [hw1]),HX.out.1,⟨by have:=HKQ.out;have:=HX.out;omega⟩,⟨HNX.out⟩,⟨(by repeat (first | (with_reducible first | exact HB.out | apply bA | apply bN | apply bD) | exact HB.out))⟩⟩
    | false =>
     have HN:=As.mk (alike_false (n + 1) HNX.out)
     go_wp2_with (first | (go_at_call 76;(with_reducible refine (def_Same.calls k x.f0 x.f1 x.f2 Ax cx x.f3 x.f4 x.f5 y.f0 y.f1 y.f2 Ay cy y.f3 y.f4 y.f5 _ _ ?s1 HLX.out ?s2 HLY.out HSM1.out).mono ?_);(case s1=>exact Kd.C_below HCX.out (by repeat (first | (with_reducible first | exact HB1.out | apply bA | apply bN | apply bD) | exact HB1.out)));(case s2=>exact Kd.C_below HCY.out (by repeat (first | (with_reducible first | exact HB1.out | apply bA | apply bN | apply bD) | exact HB1.out)));rintro e w5 ⟨rfl,hb_⟩;have n0_:=As.mk (bS (by repeat (first | (with_reducible first | exact HB.out | apply bA | apply bN | apply bD) | exact HB.out)) hb_);clear HB hb_;have HB:=n0_;clear n0_))
     go_ret
     refine ⟨?_,(by repeat (first | (with_reducible first | exact HB.out | apply bA | apply bN | apply bD) | exact HB.out))⟩
     rw [HN.out]
     rfl
theorem dsame_calls (sm : S34 → S34 → Bool) (k : Nat) (w : World) (A1 : Option Addr) (c1 : Nat) (l : List S34) (A2 : Option Addr) (c2 : Nat) (m : List S34) (h1 : Kd.C k34 w A1 l.length l) (h2 : Kd.C k34 w A2 m.length m) (hl : l.length ≤ 1000000)
  (hsm : ∀ x ∈ l,∀ y ∈ m,def_Same.f k x.f0 x.f1 x.f2 x.f3 x.f4 x.f5 y.f0 y.f1 y.f2 y.f3 y.f4 y.f5 = some (sm x y)) :
  Calls Tryz.prog 74 #[.slice A1 l.length c1,.slice A2 m.length c2] w fun e w'=>e = .returned (.bool (alike sm l m)) ∧ Below w.heap.size w w':=by
 have h:=eqs_calls sm k w A1 c1 l A2 c2 m h1 h2 hl hsm
 clear h1 h2 hl hsm
 go_enter Tryz.func74,Tryz.ntmps74
 go_wp2_with (first | (go_at_call 115;(with_reducible refine h.mono ?_);rintro e w5 ⟨rfl,hb_⟩))
 go_ret
 exact ⟨rfl,hb_⟩
end Go.Proofs.YtmlebgikdegjjaaGreatDoor.Hd
