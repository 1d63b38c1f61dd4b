import Derived.Test.YtmlebgikdegjjaaGreatDoorPAllx0
import Derived.Test.YtmlebgikdegjjaaGreatDoorPAllx3
set_option maxHeartbeats 8000000
set_option maxRecDepth 100000
namespace Go.Proofs.YtmlebgikdegjjaaGreatDoor.PAll
open Go.RowKit Go.Proofs.YtmlebgikdegjjaaGreatDoorW.PrintWords Go.Proofs.YtmlebgikdegjjaaGreatDoorW.PrintLast Go.Proofs.YtmlebgikdegjjaaGreatDoorW.PrintMore
attribute [local go_sem] max2_int min2_int max_two min_two max_three min_three max_four min_four   -- for this text's walks alone
set_option linter.unusedVariables false
set_option linter.unusedSimpArgs false
/-! ### r06_Is: function 107 -/
mutual
def r06_Is.j0 : Nat → ByteArray → Bool → Option (Bool)
 | 0,_,_=>none
 | k + 1,x0,x17=>if x17 = true then (some false) else (r06_Is.l0 k x0 0)
def r06_Is.l0 : Nat → ByteArray → Int → Option (Bool)
 | 0,_,_=>none
 | k + 1,x0,x3=>if x3 < (x0.size : Int) then (if 0 ≤ x3 then ((r06_letter.f (bt x0 x3)).bind fun t158=>(if t158 = true then (r06_Is.l0 k x0 (wrap64 (x3 + 1))) else (if (bt x0 x3) < 48 then (some false) else (if (bt x0 x3) > 57 then (some false) else (r06_Is.l0 k x0 (wrap64 (x3 + 1))))))) else (none)) else (some true)
end
def r06_Is.f (k : Nat) (a0 : ByteArray) : Option (Bool):=if (a0.size : Int) < 1 then (r06_Is.j0 k a0 true) else (if (a0.size : Int) > 40 then (r06_Is.j0 k a0 true) else (if 0 < (a0.size : Int) then ((r06_letter.f (bt a0 0)).bind fun t157=>(r06_Is.j0 k a0 (!t157))) else (none)))
theorem r06_Is.mono_l : ∀ k,(∀ y0 y1,LeO (r06_Is.j0 k y0 y1) (r06_Is.j0 (k + 1) y0 y1)) ∧ (∀ y0 y1,LeO (r06_Is.l0 k y0 y1) (r06_Is.l0 (k + 1) y0 y1))
 | 0=>⟨fun _ _ r h=>by simp [r06_Is.j0] at h,fun _ _ r h=>by simp [r06_Is.l0] at h⟩
 | k + 1=>by
  obtain ⟨ih0,ih1⟩:=r06_Is.mono_l k
  refine ⟨?_,?_⟩
  ·intro y0 y1
   unfold r06_Is.j0
   repeat' first
   | (with_reducible exact ih0 _ _)
   | (with_reducible exact ih1 _ _)
   | (with_reducible exact LeO.refl _)
   | (with_reducible exact LeO.none _)
   | (with_reducible refine LeO.ite ?_ ?_)
   | (with_reducible refine LeO.bind ?_ (fun _=>?_))
   | exact ih0 _ _
   | exact ih1 _ _
   | exact LeO.none _
   | refine LeO.ite ?_ ?_
   | refine LeO.bind ?_ (fun _=>?_)
  ·intro y0 y1
   unfold r06_Is.l0
   repeat' first
   | (with_reducible exact ih0 _ _)
   | (with_reducible exact ih1 _ _)
   | (with_reducible exact LeO.refl _)
   | (with_reducible exact LeO.none _)
   | (with_reducible refine LeO.ite ?_ ?_)
   | (with_reducible refine LeO.bind ?_ (fun _=>?_))
   | exact ih0 _ _
   | exact ih1 _ _
   | exact LeO.none _
   | refine LeO.ite ?_ ?_
   | refine LeO.bind ?_ (fun _=>?_)
theorem r06_Is.mono : ∀ a0 k,LeO (r06_Is.f k a0) (r06_Is.f (k + 1) a0):=by
 intro a0 k
 obtain ⟨ih0,ih1⟩:=r06_Is.mono_l k
 unfold r06_Is.f
 repeat' first
   | (with_reducible exact ih0 _ _)
   | (with_reducible exact ih1 _ _)
   | (with_reducible exact LeO.refl _)
   | (with_reducible exact LeO.none _)
   | (with_reducible refine LeO.ite ?_ ?_)
   | (with_reducible refine LeO.bind ?_ (fun _=>?_))
   | exact ih0 _ _
   | exact ih1 _ _
   | exact LeO.none _
   | refine LeO.ite ?_ ?_
   | refine LeO.bind ?_ (fun _=>?_)
theorem r06_Is.calls (k : Nat) (a0 : ByteArray) (r : Bool) (w : World) (h : r06_Is.f k a0 = some r) :
  Calls Tryz.prog 107 #[.string a0] w fun e w'=>e = .returned (.bool r) ∧ Drawn0 w w':=by
 have H : (if (a0.size : Int) < 1 then (r06_Is.j0 k a0 true) else (if (a0.size : Int) > 40 then (r06_Is.j0 k a0 true) else (if 0 < (a0.size : Int) then ((r06_letter.f (bt a0 0)).bind fun t157=>(r06_Is.j0 k a0 (!t157))) else (none)))) = some r:=h
 clear h
 have HC2:=As.mk H
 clear H
 go_enter Tryz.func107,Tryz.ntmps107
 go_upto_region 1 with (fail)
 go_cut [17] (fun v17 wc=>∃ (kq : Nat) (x17_1 : Bool),v17 = .bool x17_1 ∧ As (r06_Is.j0 kq a0 x17_1 = some r) ∧ As (kq ≤ k) ∧ Drawn0 w wc)
 case first =>
  have H:=HC2.out
  clear HC2
  by_cases c3 : (a0.size : Int) < 1
  ·rw [if_pos c3] at H
   have c3b0 : decide ((a0.size : Int) < 1) = true:=decide_eq_true c3
   have c3b1 : decide (a0.size < 1) = true:=decide_eq_true (by omega)
   clear c3
   (first | rw [c3b0] | (simp only [i64_w,i32_w];rw [c3b0]) | skip)
   have H':=As.mk H
   clear H
   go_wp2
   go_meet
   case rel=>exact ⟨_,(true),(by first | rfl | (simp;done) | (simp [*];done)),H',⟨by first | omega | exact Nat.le_refl _⟩,by repeat (first | exact Drawn0.refl _ | apply Drawn0.step)⟩
  ·rw [if_neg c3] at H
   have c3b0 : decide ((a0.size : Int) < 1) = false:=decide_eq_false c3
   have c3b1 : decide (a0.size < 1) = false:=decide_eq_false (by omega)
   clear c3
   (first | rw [c3b0] | (simp only [i64_w,i32_w];rw [c3b0]) | skip)
   by_cases c4 : (a0.size : Int) > 40
   ·rw [if_pos c4] at H
    have c4b0 : decide (40 < (a0.size : Int)) = true:=decide_eq_true c4
    have c4b1 : decide (40 < a0.size) = true:=decide_eq_true (by omega)
    clear c4
    have H':=As.mk H
    clear H
    go_wp2
    go_meet
    case rel=>exact ⟨_,(true),(by first | rfl | (simp;done) | (simp [*];done)),H',⟨by first | omega | exact Nat.le_refl _⟩,by repeat (first | exact Drawn0.refl _ | apply Drawn0.step)⟩
   ·rw [if_neg c4] at H
    have c4b0 : decide (40 < (a0.size : Int)) = false:=decide_eq_false c4
    have c4b1 : decide (40 < a0.size) = false:=decide_eq_false (by omega)
    clear c4
    by_cases c5 : 0 < (a0.size : Int)
    ·rw [if_pos c5] at H
     have c5b0 : decide (0 < (a0.size : Int)) = true:=decide_eq_true c5
     have c5b1 : decide (0 < a0.size) = true:=decide_eq_true (by omega)
     clear c5
     replace H:=Option.bind_eq_some_iff.mp H
     obtain ⟨t157,A70,H⟩:=H
     replace H : (r06_Is.j0 k a0 (!t157)) = some r:=H
     have A7:=As.mk A70
     clear A70
     have H':=As.mk H
     clear H
     have p6 : 0 ≤ (0 : Int):=(by omega)
     have q6 : 0 < a0.size:=(by have : (0 : Int) < (a0.size : Int):=of_decide_eq_true (by first | (with_reducible assumption) | assumption);omega)
     have hx6 : ∀ h : 0 < a0.size,((a0[0]'h).toNat : Int) = bt a0 0:=bt_at a0 0
     clear p6
     have qi6 : (0 < (a0.size : Int)) = True:=eq_true (of_decide_eq_true (by first | (with_reducible assumption) | assumption))
     replace q6:=eq_true q6
     go_wp2_with (first | (go_at_call 140;(with_reducible refine (r06_letter.calls (bt a0 0) t157 _ A7.out).mono ?_);rintro e w' ⟨rfl,⟨nd,rfl⟩⟩))
     go_meet
     case rel=>exact ⟨_,(!t157),(by first | rfl | (simp;done) | (simp [*];done)),H',⟨by first | omega | exact Nat.le_refl _⟩,by repeat (first | exact Drawn0.refl _ | apply Drawn0.step)⟩
    ·rw [if_neg c5] at H
     exact absurd H (by simp)
 case rest =>
  clear HC2
  try clear c1
  try clear p2
  try clear c3
  try clear c3b0
  try clear c3b1
  try clear c4
  try clear c4b0
  try clear c4b1
  try clear c5
  try clear c5b0
  try clear c5b1
  try clear p6
  try clear q6
  try clear hx6
  try clear qi6
  try clear p6
  try clear q6
  obtain ⟨kq,x17_1,rfl,HA,HJ1,⟨mc1,rfl⟩⟩:=hcut
  cases kq with
  | zero=>exact absurd HA.out (by simp [r06_Is.j0])
  | succ kj1 =>
   have H:=HA.out
   clear HA
   simp only [r06_Is.j0] at H
   by_cases c8 : x17_1 = true
   ·subst c8
    have H1 : (some false) = some r:=by rw [if_pos rfl] at H;exact H
    clear H
    have H:=H1
    clear H1
    obtain rfl:=Option.some.inj H
    go_wp2
    go_ret
    exact ⟨by first | rfl | (simp;done) | (simp [*];done),by repeat (first | exact Drawn0.refl _ | apply Drawn0.step)⟩
   ·replace c8:=Bool.eq_false_iff.mpr c8
    subst c8
    have H1 : (r06_Is.l0 kj1 a0 0) = some r:=by rw [if_neg (show ¬ (false = true) by decide)] at H;exact H
    clear H
    have H:=H1
    clear H1
    have H':=As.mk H
    clear H
    go_wp2
    go_loopg [3] kj1 (fun kq v3 w'=>∃ (x3_2 : Int),v3 = .int .i64 x3_2 ∧ As (r06_Is.l0 kq a0 x3_2 = some r) ∧ As (kq ≤ kj1) ∧ Drawn0 w w')
    case atStart=>exact ⟨(0),(by first | rfl | (simp;done) | (simp [*];done)),H',⟨Nat.le_refl _⟩,by repeat (first | exact Drawn0.refl _ | apply Drawn0.step)⟩
    case round =>
     clear H'
     try clear c1
     try clear p2
     try clear c3
     try clear c3b0
     try clear c3b1
     try clear c4
     try clear c4b0
     try clear c4b1
     try clear c5
     try clear c5b0
     try clear c5b1
     try clear p6
     try clear q6
     try clear hx6
     try clear qi6
     try clear c8
     try clear p2
     try clear p6
     try clear q6
     obtain ⟨x3_2,rfl,HA,HK2,⟨m2,rfl⟩⟩:=hrel
     cases gk with
     | zero=>exact absurd HA.out (by simp [r06_Is.l0])
     | succ k2 =>
      have H:=HA.out
      clear HA
      simp only [r06_Is.l0] at H
      by_cases c9 : x3_2 < (a0.size : Int)
      ·rw [if_pos c9] at H
       have c9b0 : decide (x3_2 < (a0.size : Int)) = true:=decide_eq_true c9
       clear c9
       by_cases c10 : 0 ≤ x3_2
       ·rw [if_pos c10] at H
        have c10b0 : decide (0 ≤ x3_2) = true:=decide_eq_true c10
        clear c10
        replace H:=Option.bind_eq_some_iff.mp H
        obtain ⟨t158,A120,H⟩:=H
        replace H : (if t158 = true then (r06_Is.l0 k2 a0 (wrap64 (x3_2 + 1))) else (if (bt a0 x3_2) < 48 then (some false) else (if (bt a0 x3_2) > 57 then (some false) else (r06_Is.l0 k2 a0 (wrap64 (x3_2 + 1)))))) = some r:=H
        have A12:=As.mk A120
        clear A120
        by_cases c13 : t158 = true
        ·subst c13
         have H1 : (r06_Is.l0 k2 a0 (wrap64 (x3_2 + 1))) = some r:=by rw [if_pos rfl] at H;exact H
         clear H
         have H:=H1
         clear H1
         have H':=As.mk H
         clear H
         have p11 : 0 ≤ (x3_2 : Int):=of_decide_eq_true (by first | (with_reducible assumption) | assumption)
         have q11 : x3_2 < (a0.size : Int):=of_decide_eq_true (by first | (with_reducible assumption) | assumption)
         have hx11:=bt_at a0 x3_2
         replace p11:=eq_true p11
         replace q11:=eq_true q11
         go_wp2_with (first | ((with_reducible refine gC (f:=140) rfl ?_);refine goesL_ (some 27) rfl rfl Tryz.func140 (by kernel_rfl) rfl #[.int .u8 (bt a0 x3_2)] rfl (by (try simp only [List.map_toArray,List.map_cons,List.map_nil]);first | done | rfl | (simp only [List.length_drop,List.length_take];rfl)) ?_;(with_reducible refine (r06_letter.calls (bt a0 x3_2) true _ A12.out).mono ?_);rintro e w' ⟨rfl,⟨nd,rfl⟩⟩;refine ⟨_,rfl,?_⟩))
         go_roundg k2
         case measure=>have:=HJ1.out;have:=HK2.out;omega
         case rel=>exact ⟨(wrap64 (x3_2 + 1)),(by first | rfl | (simp;done) | (simp [*];done)),H',⟨by have:=HJ1.out;have:=HK2.out;omega⟩,by repeat (first | exact Drawn0.refl _ | apply Drawn0.step)⟩
        ·replace c13:=Bool.eq_false_iff.mpr c13
         subst c13
         have H1 : (if (bt a0 x3_2) < 48 then (some false) else (if (bt a0 x3_2) > 57 then (some false) else (r06_Is.l0 k2 a0 (wrap64 (x3_2 + 1))))) = some r:=by rw [if_neg (show ¬ (false = true) by decide)] at H;exact H
         clear H
         have H:=H1
         clear H1
         by_cases c15 : (bt a0 x3_2) < 48
         ·rw [if_pos c15] at H
          have c15b0 : decide ((bt a0 x3_2) < 48) = true:=decide_eq_true c15
          clear c15
          obtain rfl:=Option.some.inj H
          have p11 : 0 ≤ (x3_2 : Int):=of_decide_eq_true (by first | (with_reducible assumption) | assumption)
          have q11 : x3_2 < (a0.size : Int):=of_decide_eq_true (by first | (with_reducible assumption) | assumption)
          have hx11:=bt_at a0 x3_2
          replace p11:=eq_true p11
          replace q11:=eq_true q11
          go_wp2_with (first | ((with_reducible refine gC (f:=140) rfl ?_);refine goesL_ (some 27) rfl rfl Tryz.func140 (by kernel_rfl) rfl #[.int .u8 (bt a0 x3_2)] rfl (by (try simp only [List.map_toArray,List.map_cons,List.map_nil]);first | done | rfl | (simp only [List.length_drop,List.length_take];rfl)) ?_;(with_reducible refine (r06_letter.calls (bt a0 x3_2) false _ A12.out).mono ?_);rintro e w' ⟨rfl,⟨nd,rfl⟩⟩;refine ⟨_,rfl,?_⟩;have p14 : 0 ≤ (x3_2 : Int):=of_decide_eq_true (by first | (with_reducible assumption) | assumption);have q14 : x3_2 < (a0.size : Int):=of_decide_eq_true (by first | (with_reducible assumption) | assumption);have hx14:=bt_at a0 x3_2;replace p14:=eq_true p14;replace q14:=eq_true q14))
          go_ret
          exact ⟨by first | rfl | (simp;done) | (simp [*];done),by repeat (first | exact Drawn0.refl _ | apply Drawn0.step)⟩
         ·rw [if_neg c15] at H
          have c15b0 : decide ((bt a0 x3_2) < 48) = false:=decide_eq_false c15
          clear c15
          by_cases c17 : (bt a0 x3_2) > 57
          ·rw [if_pos c17] at H
           have c17b0 : decide (57 < (bt a0 x3_2)) = true:=decide_eq_true c17
           clear c17
           obtain rfl:=Option.some.inj H
           have p11 : 0 ≤ (x3_2 : Int):=of_decide_eq_true (by first | (with_reducible assumption) | assumption)
           have q11 : x3_2 < (a0.size : Int):=of_decide_eq_true (by first | (with_reducible assumption) | assumption)
           have hx11:=bt_at a0 x3_2
           replace p11:=eq_true p11
           replace q11:=eq_true q11
           go_wp2_with (first | ((with_reducible refine gC (f:=140) rfl ?_);refine goesL_ (some 27) rfl rfl Tryz.func140 (by kernel_rfl) rfl #[.int .u8 (bt a0 x3_2)] rfl (by (try simp only [List.map_toArray,List.map_cons,List.map_nil]);first | done | rfl | (simp only [List.length_drop,List.length_take];rfl)) ?_;(with_reducible refine (r06_letter.calls (bt a0 x3_2) false _ A12.out).mono ?_);rintro e w' ⟨rfl,⟨nd,rfl⟩⟩;refine ⟨_,rfl,?_⟩;have p14 : 0 ≤ (x3_2 : Int):=of_decide_eq_true (by first | (with_reducible assumption) | assumption);have q14 : x3_2 < (a0.size : Int):=of_decide_eq_true (by first | (with_reducible assumption) | assumption);have hx14:=bt_at a0 x3_2;replace p14:=eq_true p14;replace q14:=eq_true q14;have p16 : 0 ≤ (x3_2 : Int):=of_decide_eq_true (by first | (with_reducible assumption) | assumption);have q16 : x3_2 < (a0.size : Int):=of_decide_eq_true (by first | (with_reducible assumption) | assumption);have hx16:=bt_at a0 x3_2;replace p16:=eq_true p16;replace q16:=eq_true q16))
           go_ret
           exact ⟨by first | rfl | (simp;done) | (simp [*];done),by repeat (first | exact Drawn0.refl _ | apply Drawn0.step)⟩
          ·rw [if_neg c17] at H
           have c17b0 : decide (57 < (bt a0 x3_2)) = false:=decide_eq_false c17
           clear c17
           have H':=As.mk H
           clear H
           have p11 : 0 ≤ (x3_2 : Int):=of_decide_eq_true (by first | (with_reducible assumption) | assumption)
           have q11 : x3_2 < (a0.size : Int):=of_decide_eq_true (by first | (with_reducible assumption) | assumption)
           have hx11:=bt_at a0 x3_2
           replace p11:=eq_true p11
           replace q11:=eq_true q11
           go_wp2_with (first | ((with_reducible refine gC (f:=140) rfl ?_);refine goesL_ (some 27) rfl rfl Tryz.func140 (by kernel_rfl) rfl #[.int .u8 (bt a0 x3_2)] rfl (by (try simp only [List.map_toArray,List.map_cons,List.map_nil]);first | done | rfl | (simp only [List.length_drop,List.length_take];rfl)) ?_;(with_reducible refine (r06_letter.calls (bt a0 x3_2) false _ A12.out).mono ?_);rintro e w' ⟨rfl,⟨nd,rfl⟩⟩;refine ⟨_,rfl,?_⟩;have p14 : 0 ≤ (x3_2 : Int):=of_decide_eq_true (by first | (with_reducible assumption) | assumption);have q14 : x3_2 < (a0.size : Int):=of_decide_eq_true (by first | (with_reducible assumption) | assumption);have hx14:=bt_at a0 x3_2;replace p14:=eq_true p14;replace q14:=eq_true q14;have p16 : 0 ≤ (x3_2 : Int):=of_decide_eq_true (by first | (with_reducible assumption) | assumption);have q16 : x3_2 < (a0.size : Int):=of_decide_eq_true (by first | (with_reducible assumption) | assumption);have hx16:=bt_at a0 x3_2;replace p16:=eq_true p16;replace q16:=eq_true q16))
           go_roundg k2
           case measure=>have:=HJ1.out;have:=HK2.out;omega
           case rel=>exact ⟨(wrap64 (x3_2 + 1)),(by first | rfl | (simp;done) | (simp [*];done)),H',⟨by have:=HJ1.out;have:=HK2.out;omega⟩,by repeat (first | exact Drawn0.refl _ | apply Drawn0.step)⟩
       ·rw [if_neg c10] at H
        exact absurd H (by simp)
      ·rw [if_neg c9] at H
       have c9b0 : decide (x3_2 < (a0.size : Int)) = false:=decide_eq_false c9
       clear c9
       obtain rfl:=Option.some.inj H
       go_wp2
       go_ret
       exact ⟨by first | rfl | (simp;done) | (simp [*];done),by repeat (first | exact Drawn0.refl _ | apply Drawn0.step)⟩
/-! ### r06_Class: function 66 -/
def r06_Class.f (k : Nat) (a0 : ByteArray) : Option (Bool):=(r06_Is.f k a0).bind fun t159=>(if t159 = true then (if 0 < (a0.size : Int) then ((r06_small.f (bt a0 0)).bind fun t160=>(some (!t160))) else (none)) else (some false))
theorem r06_Class.mono : ∀ a0 k,LeO (r06_Class.f k a0) (r06_Class.f (k + 1) a0):=by
 intro a0 k
 unfold r06_Class.f
 repeat' first
   | (with_reducible exact r06_Is.mono _ _)
   | (with_reducible exact LeO.refl _)
   | (with_reducible exact LeO.none _)
   | (with_reducible refine LeO.ite ?_ ?_)
   | (with_reducible refine LeO.bind ?_ (fun _=>?_))
   | exact r06_Is.mono _ _
   | exact LeO.none _
   | refine LeO.ite ?_ ?_
   | refine LeO.bind ?_ (fun _=>?_)
theorem r06_Class.calls (k : Nat) (a0 : ByteArray) (r : Bool) (w : World) (h : r06_Class.f k a0 = some r) :
  Calls Tryz.prog 66 #[.string a0] w fun e w'=>e = .returned (.bool r) ∧ Drawn0 w w':=by
 have H : ((r06_Is.f k a0).bind fun t159=>(if t159 = true then (if 0 < (a0.size : Int) then ((r06_small.f (bt a0 0)).bind fun t160=>(some (!t160))) else (none)) else (some false))) = some r:=h
 clear h
 replace H:=Option.bind_eq_some_iff.mp H
 obtain ⟨t159,A20,H⟩:=H
 replace H : (if t159 = true then (if 0 < (a0.size : Int) then ((r06_small.f (bt a0 0)).bind fun t160=>(some (!t160))) else (none)) else (some false)) = some r:=H
 have A2:=As.mk A20
 clear A20
 by_cases c3 : t159 = true
 ·subst c3
  have H1 : (if 0 < (a0.size : Int) then ((r06_small.f (bt a0 0)).bind fun t160=>(some (!t160))) else (none)) = some r:=by rw [if_pos rfl] at H;exact H
  clear H
  have H:=H1
  clear H1
  by_cases c4 : 0 < (a0.size : Int)
  ·rw [if_pos c4] at H
   have c4b0 : decide (0 < (a0.size : Int)) = true:=decide_eq_true c4
   have c4b1 : decide (0 < a0.size) = true:=decide_eq_true (by omega)
   clear c4
   replace H:=Option.bind_eq_some_iff.mp H
   obtain ⟨t160,A60,H⟩:=H
   replace H : (some (!t160)) = some r:=H
   have A6:=As.mk A60
   clear A60
   obtain rfl:=Option.some.inj H
   go_enter Tryz.func66,Tryz.ntmps66
   go_wp2_with (first | ((with_reducible refine gC (f:=107) rfl ?_);refine goesL_ (some 4) rfl rfl Tryz.func107 (by kernel_rfl) rfl #[.string a0] rfl (by (try simp only [List.map_toArray,List.map_cons,List.map_nil]);first | done | rfl | (simp only [List.length_drop,List.length_take];rfl)) ?_;(with_reducible refine (r06_Is.calls k a0 true _ A2.out).mono ?_);rintro e w' ⟨rfl,⟨nd,rfl⟩⟩;refine ⟨_,rfl,?_⟩;have p5 : 0 ≤ (0 : Int):=(by omega);have q5 : 0 < a0.size:=(by have : (0 : Int) < (a0.size : Int):=of_decide_eq_true (by first | (with_reducible assumption) | assumption);omega);have hx5 : ∀ h : 0 < a0.size,((a0[0]'h).toNat : Int) = bt a0 0:=bt_at a0 0;clear p5;have qi5 : (0 < (a0.size : Int)) = True:=eq_true (of_decide_eq_true (by first | (with_reducible assumption) | assumption));replace q5:=eq_true q5) | (go_at_call 108;(with_reducible refine (r06_small.calls (bt a0 0) t160 _ A6.out).mono ?_);rintro e w' ⟨rfl,⟨nd,rfl⟩⟩))
   go_ret
   exact ⟨by first | rfl | (simp;done) | (simp [*];done),by repeat (first | exact Drawn0.refl _ | apply Drawn0.step)⟩
  ·rw [if_neg c4] at H
   exact absurd H (by simp)
 ·replace c3:=Bool.eq_false_iff.mpr c3
  subst c3
  have H1 : (some false) = some r:=by rw [if_neg (show ¬ (false = true) by decide)] at H;exact H
  clear H
  have H:=H1
  clear H1
  obtain rfl:=Option.some.inj H
  go_enter Tryz.func66,Tryz.ntmps66
  go_wp2_with (first | ((with_reducible refine gC (f:=107) rfl ?_);refine goesL_ (some 4) rfl rfl Tryz.func107 (by kernel_rfl) rfl #[.string a0] rfl (by (try simp only [List.map_toArray,List.map_cons,List.map_nil]);first | done | rfl | (simp only [List.length_drop,List.length_take];rfl)) ?_;(with_reducible refine (r06_Is.calls k a0 false _ A2.out).mono ?_);rintro e w' ⟨rfl,⟨nd,rfl⟩⟩;refine ⟨_,rfl,?_⟩))
  go_ret
  exact ⟨by first | rfl | (simp;done) | (simp [*];done),by repeat (first | exact Drawn0.refl _ | apply Drawn0.step)⟩
/-! ### r06_In: function 68 -/
def r06_In.l0 : Nat → List ByteArray → ByteArray → Int → Option (Bool)
 | 0,_,_,_=>none
 | k + 1,x0,x1,x5=>if x5 < (x0.length : Int) then (if 0 ≤ x5 then (if (rdOf ByteArray.empty x0 x5).toList = x1.toList then (some true) else (r06_In.l0 k x0 x1 (wrap64 (x5 + 1)))) else (none)) else (some false)
def r06_In.f (k : Nat) (l0 : List ByteArray) (a1 : ByteArray) : Option (Bool):=r06_In.l0 k l0 a1 0
theorem r06_In.mono_l : ∀ k,(∀ y0 y1 y2,LeO (r06_In.l0 k y0 y1 y2) (r06_In.l0 (k + 1) y0 y1 y2))
 | 0=>fun _ _ _ r h=>by simp [r06_In.l0] at h
 | k + 1=>by
  have ih0:=r06_In.mono_l k
  ·intro y0 y1 y2
   unfold r06_In.l0
   repeat' first
   | (with_reducible exact ih0 _ _ _)
   | (with_reducible exact LeO.refl _)
   | (with_reducible exact LeO.none _)
   | (with_reducible refine LeO.ite ?_ ?_)
   | (with_reducible refine LeO.bind ?_ (fun _=>?_))
   | exact ih0 _ _ _
   | exact LeO.none _
   | refine LeO.ite ?_ ?_
   | refine LeO.bind ?_ (fun _=>?_)
theorem r06_In.mono : ∀ a0 a1 k,LeO (r06_In.f k a0 a1) (r06_In.f (k + 1) a0 a1):=by
 intro a0 a1 k
 have ih0:=r06_In.mono_l k
 unfold r06_In.f
 repeat' first
   | (with_reducible exact ih0 _ _ _)
   | (with_reducible exact LeO.refl _)
   | (with_reducible exact LeO.none _)
   | (with_reducible refine LeO.ite ?_ ?_)
   | (with_reducible refine LeO.bind ?_ (fun _=>?_))
   | exact ih0 _ _ _
   | exact LeO.none _
   | refine LeO.ite ?_ ?_
   | refine LeO.bind ?_ (fun _=>?_)
theorem r06_In.calls (k : Nat) (A0 : Option Addr) (c0 : Nat) (l0 : List ByteArray) (a1 : ByteArray) (r : Bool) (w : World) (hr0 : Kd.C Kd.string w A0 l0.length l0) (hc0 : l0.length ≤ c0) (h : r06_In.f k l0 a1 = some r) :
  Calls Tryz.prog 68 #[.slice A0 l0.length c0,.string a1] w fun e w'=>e = .returned (.bool r) ∧ Drawn0 w w':=by
 have HR0:=As.mk hr0
 have HC0:=As.mk hc0
 clear hr0 hc0
 have H : (r06_In.l0 k l0 a1 0) = some r:=h
 clear h
 have H':=As.mk H
 clear H
 go_enter Tryz.func68,Tryz.ntmps68
 go_wp2
 go_loopg [5] k (fun kq v5 w'=>∃ (x5_1 : Int),v5 = .int .i64 x5_1 ∧ As (r06_In.l0 kq l0 a1 x5_1 = some r) ∧ As (kq ≤ k) ∧ Drawn0 w w')
 case atStart=>exact ⟨(0),(by first | rfl | (simp;done) | (simp [*];done)),H',⟨Nat.le_refl _⟩,by repeat (first | exact Drawn0.refl _ | apply Drawn0.step)⟩
 case round =>
  clear H'
  try clear p2
  obtain ⟨x5_1,rfl,HA,HK1,⟨m1,rfl⟩⟩:=hrel
  cases gk with
  | zero=>exact absurd HA.out (by simp [r06_In.l0])
  | succ k1 =>
   have H:=HA.out
   clear HA
   simp only [r06_In.l0] at H
   by_cases c3 : x5_1 < (l0.length : Int)
   ·rw [if_pos c3] at H
    have c3b0 : decide (x5_1 < (l0.length : Int)) = true:=decide_eq_true c3
    clear c3
    by_cases c4 : 0 ≤ x5_1
    ·rw [if_pos c4] at H
     have c4b0 : decide (0 ≤ x5_1) = true:=decide_eq_true c4
     clear c4
     by_cases c5 : (rdOf ByteArray.empty l0 x5_1).toList = a1.toList
     ·rw [if_pos c5] at H
      have c5b0 : ((rdOf ByteArray.empty l0 x5_1).toList == a1.toList) = true:=beq_iff_eq.mpr c5
      have c5b1 : ((rdOf ByteArray.empty l0 x5_1).toList != a1.toList) = false:=bne_eq_false_iff_eq.mpr c5
      clear c5
      obtain rfl:=Option.some.inj H
      have p161 : 0 ≤ (x5_1 : Int):=of_decide_eq_true (by first | (with_reducible assumption) | assumption)
      have q161 : x5_1 < (l0.length : Int):=of_decide_eq_true (by first | (with_reducible assumption) | assumption)
      obtain ⟨ad161,e161,hx161_0⟩:=Kd.at_string HR0.out x5_1 p161 q161
      cases e161
      replace p161:=eq_true p161
      replace q161:=eq_true q161
      go_wp2
      go_ret
      exact ⟨by first | rfl | (simp;done) | (simp [*];done),by repeat (first | exact Drawn0.refl _ | apply Drawn0.step)⟩
     ·rw [if_neg c5] at H
      have c5b0 : ((rdOf ByteArray.empty l0 x5_1).toList == a1.toList) = false:=beq_eq_false_iff_ne.mpr c5
      have c5b1 : ((rdOf ByteArray.empty l0 x5_1).toList != a1.toList) = true:=bne_iff_ne.mpr c5
      have H':=As.mk H
      clear H
      have p161 : 0 ≤ (x5_1 : Int):=of_decide_eq_true (by first | (with_reducible assumption) | assumption)
      have q161 : x5_1 < (l0.length : Int):=of_decide_eq_true (by first | (with_reducible assumption) | assumption)
      obtain ⟨ad161,e161,hx161_0⟩:=Kd.at_string HR0.out x5_1 p161 q161
      cases e161
      replace p161:=eq_true p161
      replace q161:=eq_true q161
      go_wp2
      go_roundg k1
      case measure=>have:=HK1.out;omega
      case rel=>exact ⟨(wrap64 (x5_1 + 1)),(by first | rfl | (simp;done) | (simp [*];done)),H',⟨by have:=HK1.out;omega⟩,by repeat (first | exact Drawn0.refl _ | apply Drawn0.step)⟩
    ·rw [if_neg c4] at H
     exact absurd H (by simp)
   ·rw [if_neg c3] at H
    have c3b0 : decide (x5_1 < (l0.length : Int)) = false:=decide_eq_false c3
    clear c3
    obtain rfl:=Option.some.inj H
    go_wp2
    go_ret
    exact ⟨by first | rfl | (simp;done) | (simp [*];done),by repeat (first | exact Drawn0.refl _ | apply Drawn0.step)⟩
/-! ### r06_Var: function 67 -/
def r06_Var.f (k : Nat) (a0 : ByteArray) : Option (Bool):=(r06_Is.f k a0).bind fun t162=>(if t162 = true then (if 0 < (a0.size : Int) then ((r06_small.f (bt a0 0)).bind fun t163=>(if t163 = true then ((r06_In.f k (([(⟨#[115,101,108,102]⟩ : ByteArray),(⟨#[115,117,112,101,114]⟩ : ByteArray),(⟨#[110,105,108]⟩ : ByteArray),(⟨#[116,114,117,101]⟩ : ByteArray),(⟨#[102,97,108,115,101]⟩ : ByteArray)] : List ByteArray)) a0).bind fun t167=>(some (!t167))) else (some false))) else (none)) else (some false))
theorem r06_Var.mono : ∀ a0 k,LeO (r06_Var.f k a0) (r06_Var.f (k + 1) a0):=by
 intro a0 k
 unfold r06_Var.f
 repeat' first
   | (with_reducible exact r06_In.mono _ _ _)
   | (with_reducible exact r06_Is.mono _ _)
   | (with_reducible exact LeO.refl _)
   | (with_reducible exact LeO.none _)
   | (with_reducible refine LeO.ite ?_ ?_)
   | (with_reducible refine LeO.bind ?_ (fun _=>?_))
   | exact r06_In.mono _ _ _
   | exact r06_Is.mono _ _
   | exact LeO.none _
   | refine LeO.ite ?_ ?_
   | refine LeO.bind ?_ (fun _=>?_)
theorem r06_Var.calls (k : Nat) (a0 : ByteArray) (r : Bool) (w : World) (h : r06_Var.f k a0 = some r) :
  Calls Tryz.prog 67 #[.string a0] w fun e w'=>e = .returned (.bool r) ∧ Below w.heap.size w w':=by
 have HB:=As.mk (Below.refl w.heap.size w)
 have H : ((r06_Is.f k a0).bind fun t162=>(if t162 = true then (if 0 < (a0.size : Int) then ((r06_small.f (bt a0 0)).bind fun t163=>(if t163 = true then ((r06_In.f k (([(⟨#[115,101,108,102]⟩ : ByteArray),(⟨#[115,117,112,101,114]⟩ : ByteArray),(⟨#[110,105,108]⟩ : ByteArray),(⟨#[116,114,117,101]⟩ : ByteArray),(⟨#[102,97,108,115,101]⟩ : ByteArray)] : List ByteArray)) a0).bind fun t167=>(some (!t167))) else (some false))) else (none)) else (some false))) = some r:=h
 clear h
 replace H:=Option.bind_eq_some_iff.mp H
 obtain ⟨t162,A20,H⟩:=H
 replace H : (if t162 = true then (if 0 < (a0.size : Int) then ((r06_small.f (bt a0 0)).bind fun t163=>(if t163 = true then ((r06_In.f k (([(⟨#[115,101,108,102]⟩ : ByteArray),(⟨#[115,117,112,101,114]⟩ : ByteArray),(⟨#[110,105,108]⟩ : ByteArray),(⟨#[116,114,117,101]⟩ : ByteArray),(⟨#[102,97,108,115,101]⟩ : ByteArray)] : List ByteArray)) a0).bind fun t167=>(some (!t167))) else (some false))) else (none)) else (some false)) = some r:=H
 have A2:=As.mk A20
 clear A20
 by_cases c3 : t162 = true
 ·subst c3
  have H1 : (if 0 < (a0.size : Int) then ((r06_small.f (bt a0 0)).bind fun t163=>(if t163 = true then ((r06_In.f k (([(⟨#[115,101,108,102]⟩ : ByteArray),(⟨#[115,117,112,101,114]⟩ : ByteArray),(⟨#[110,105,108]⟩ : ByteArray),(⟨#[116,114,117,101]⟩ : ByteArray),(⟨#[102,97,108,115,101]⟩ : ByteArray)] : List ByteArray)) a0).bind fun t167=>(some (!t167))) else (some false))) else (none)) = some r:=by rw [if_pos rfl] at H;exact H
  clear H
  have H:=H1
  clear H1
  by_cases c4 : 0 < (a0.size : Int)
  ·rw [if_pos c4] at H
   have c4b0 : decide (0 < (a0.size : Int)) = true:=decide_eq_true c4
   have c4b1 : decide (0 < a0.size) = true:=decide_eq_true (by omega)
   clear c4
   replace H:=Option.bind_eq_some_iff.mp H
   obtain ⟨t163,A60,H⟩:=H
   replace H : (if t163 = true then ((r06_In.f k (([(⟨#[115,101,108,102]⟩ : ByteArray),(⟨#[115,117,112,101,114]⟩ : ByteArray),(⟨#[110,105,108]⟩ : ByteArray),(⟨#[116,114,117,101]⟩ : ByteArray),(⟨#[102,97,108,115,101]⟩ : ByteArray)] : List ByteArray)) a0).bind fun t167=>(some (!t167))) else (some false)) = some r:=H
   have A6:=As.mk A60
   clear A60
   by_cases c7 : t163 = true
   ·subst c7
    have H1 : ((r06_In.f k (([(⟨#[115,101,108,102]⟩ : ByteArray),(⟨#[115,117,112,101,114]⟩ : ByteArray),(⟨#[110,105,108]⟩ : ByteArray),(⟨#[116,114,117,101]⟩ : ByteArray),(⟨#[102,97,108,115,101]⟩ : ByteArray)] : List ByteArray)) a0).bind fun t167=>(some (!t167))) = some r:=by rw [if_pos rfl] at H;exact H
    clear H
    have H:=H1
    clear H1
    obtain ⟨y164,hy164⟩ : ∃ y_ : List ByteArray,y_ = (([(⟨#[115,101,108,102]⟩ : ByteArray),(⟨#[115,117,112,101,114]⟩ : ByteArray),(⟨#[110,105,108]⟩ : ByteArray),(⟨#[116,114,117,101]⟩ : ByteArray),(⟨#[102,97,108,115,101]⟩ : ByteArray)] : List ByteArray)):=⟨_,rfl⟩
    replace H : ((r06_In.f k y164 a0).bind fun t167=>(some (!t167))) = some r:=by first | (rw [hy164];with_reducible exact H) | (have H2_:=(Option.bind_some _ _).symm.trans H;rw [hy164];with_reducible exact H2_) | (have H2_:=(Option.bind_some _ _).symm.trans H;with_reducible exact H2_) | with_reducible exact H | (rw [hy164];exact H) | exact H
    have Ny164:=As.mk hy164
    clear hy164
    replace H:=Option.bind_eq_some_iff.mp H
    obtain ⟨t167,A80,H⟩:=H
    replace H : (some (!t167)) = some r:=H
    have A8:=As.mk A80
    clear A80
    obtain rfl:=Option.some.inj H
    go_enter Tryz.func67,Tryz.ntmps67
    go_wp2_with (first | ((with_reducible refine gC (f:=107) rfl ?_);refine goesL_ (some 4) rfl rfl Tryz.func107 (by kernel_rfl) rfl #[.string a0] rfl (by (try simp only [List.map_toArray,List.map_cons,List.map_nil]);first | done | rfl | (simp only [List.length_drop,List.length_take];rfl)) ?_;(with_reducible refine (r06_Is.calls k a0 true _ A2.out).mono ?_);rintro e w' ⟨rfl,⟨nd,rfl⟩⟩;refine ⟨_,rfl,?_⟩;have p5 : 0 ≤ (0 : Int):=(by omega);have q5 : 0 < a0.size:=(by have : (0 : Int) < (a0.size : Int):=of_decide_eq_true (by first | (with_reducible assumption) | assumption);omega);have hx5 : ∀ h : 0 < a0.size,((a0[0]'h).toNat : Int) = bt a0 0:=bt_at a0 0;clear p5;have qi5 : (0 < (a0.size : Int)) = True:=eq_true (of_decide_eq_true (by first | (with_reducible assumption) | assumption));replace q5:=eq_true q5) | (go_at_call 108;(with_reducible refine (r06_small.calls (bt a0 0) true _ A6.out).mono ?_);rintro e w' ⟨rfl,⟨nd,rfl⟩⟩) | ((with_reducible refine gate_dst (N:=11) rfl ?_);(try (refine gate_guard (by rfl) ?_;dsimp only));refine Kd.R_lit Kd.string _ 9 ?hg (N:=11) ?hd (xs:=([(⟨#[115,101,108,102]⟩ : ByteArray),(⟨#[115,117,112,101,114]⟩ : ByteArray),(⟨#[110,105,108]⟩ : ByteArray),(⟨#[116,114,117,101]⟩ : ByteArray),(⟨#[102,97,108,115,101]⟩ : ByteArray)] : List ByteArray)) (inner:=[.string (⟨#[115,101,108,102]⟩ : ByteArray),.string (⟨#[115,117,112,101,114]⟩ : ByteArray),.string (⟨#[110,105,108]⟩ : ByteArray),.string (⟨#[116,114,117,101]⟩ : ByteArray),.string (⟨#[102,97,108,115,101]⟩ : ByteArray)]) (ok:=fun _=>True) (okp:=fun _=>True) ?hr ?hp (fun _ hk=>hk) trivial (Below.refl _ _) (Nat.le_refl _) (by simp) ?_;(case hd=>rfl);(case hg=>rfl);(case hr=>first | (go_simp;done) | (go_simp;rfl));(case hp=>exact (Reps.one (show Kd.M Kd.string _ _ _ (⟨#[115,101,108,102]⟩ : ByteArray) [.string (⟨#[115,101,108,102]⟩ : ByteArray)] from rfl) (Reps.one (show Kd.M Kd.string _ _ _ (⟨#[115,117,112,101,114]⟩ : ByteArray) [.string (⟨#[115,117,112,101,114]⟩ : ByteArray)] from rfl) (Reps.one (show Kd.M Kd.string _ _ _ (⟨#[110,105,108]⟩ : ByteArray) [.string (⟨#[110,105,108]⟩ : ByteArray)] from rfl) (Reps.one (show Kd.M Kd.string _ _ _ (⟨#[116,114,117,101]⟩ : ByteArray) [.string (⟨#[116,114,117,101]⟩ : ByteArray)] from rfl) (Reps.one (show Kd.M Kd.string _ _ _ (⟨#[102,97,108,115,101]⟩ : ByteArray) [.string (⟨#[102,97,108,115,101]⟩ : ByteArray)] from rfl) (Reps.none _ _)))))));intro v165 w9 ho10 hb hg_ hnew_;clear hg_ hnew_;(first | rw [← Ny164.out] at ho10 | (simp only [Int.reduceToNat] at ho10;rw [← Ny164.out] at ho10));have n0_:=As.mk (Kd.R_lower ho10 (bZ (by repeat (first | (with_reducible first | exact HB.out | apply bA | apply bN | apply bD) | exact HB.out))));have n1_:=As.mk (bS (by repeat (first | (with_reducible first | exact HB.out | apply bA | apply bN | apply bD) | exact HB.out)) hb);clear HB;have HO166:=n0_;have HB:=n1_;clear n0_ n1_;clear hb ho10;obtain ⟨Ao11,co11,eo11⟩:=Kd.R_slice HO166.out;subst eo11) | (go_at_call 68;(with_reducible refine (r06_In.calls k _ _ y164 a0 t167 _ ?side1 ?side2 A8.out).mono ?_);(case side1=>repeat (first | exact (Kd.R_reads' HO166.out).2.2 | (with_reducible refine Kd.C_alloc ?_ _) | (with_reducible refine Kd.C_drewN ?_ _) | (with_reducible refine Kd.C_drew ?_)));(case side2=>exact (Kd.R_reads' HO166.out).2.1);rintro e w' ⟨rfl,⟨nd,rfl⟩⟩))
    go_ret
    exact ⟨by first | rfl | (simp [eN,eS] <;> rfl) | (simp [*,eN,eS] <;> rfl),by repeat (first | (with_reducible first | exact HB.out | apply bA | apply bN | apply bD) | exact HB.out)⟩
   ·replace c7:=Bool.eq_false_iff.mpr c7
    subst c7
    have H1 : (some false) = some r:=by rw [if_neg (show ¬ (false = true) by decide)] at H;exact H
    clear H
    have H:=H1
    clear H1
    obtain rfl:=Option.some.inj H
    go_enter Tryz.func67,Tryz.ntmps67
    go_wp2_with (first | ((with_reducible refine gC (f:=107) rfl ?_);refine goesL_ (some 4) rfl rfl Tryz.func107 (by kernel_rfl) rfl #[.string a0] rfl (by (try simp only [List.map_toArray,List.map_cons,List.map_nil]);first | done | rfl | (simp only [List.length_drop,List.length_take];rfl)) ?_;(with_reducible refine (r06_Is.calls k a0 true _ A2.out).mono ?_);rintro e w' ⟨rfl,⟨nd,rfl⟩⟩;refine ⟨_,rfl,?_⟩;have p5 : 0 ≤ (0 : Int):=(by omega);have q5 : 0 < a0.size:=(by have : (0 : Int) < (a0.size : Int):=of_decide_eq_true (by first | (with_reducible assumption) | assumption);omega);have hx5 : ∀ h : 0 < a0.size,((a0[0]'h).toNat : Int) = bt a0 0:=bt_at a0 0;clear p5;have qi5 : (0 < (a0.size : Int)) = True:=eq_true (of_decide_eq_true (by first | (with_reducible assumption) | assumption));replace q5:=eq_true q5) | (go_at_call 108;(with_reducible refine (r06_small.calls (bt a0 0) false _ A6.out).mono ?_);rintro e w' ⟨rfl,⟨nd,rfl⟩⟩))
    go_ret
    exact ⟨by first | rfl | (simp [eN,eS] <;> rfl) | (simp [*,eN,eS] <;> rfl),by repeat (first | (with_reducible first | exact HB.out | apply bA | apply bN | apply bD) | exact HB.out)⟩
  ·rw [if_neg c4] at H
   exact absurd H (by simp)
 ·replace c3:=Bool.eq_false_iff.mpr c3
  subst c3
  have H1 : (some false) = some r:=by rw [if_neg (show ¬ (false = true) by decide)] at H;exact H
  clear H
  have H:=H1
  clear H1
  obtain rfl:=Option.some.inj H
  go_enter Tryz.func67,Tryz.ntmps67
  go_wp2_with (first | ((with_reducible refine gC (f:=107) rfl ?_);refine goesL_ (some 4) rfl rfl Tryz.func107 (by kernel_rfl) rfl #[.string a0] rfl (by (try simp only [List.map_toArray,List.map_cons,List.map_nil]);first | done | rfl | (simp only [List.length_drop,List.length_take];rfl)) ?_;(with_reducible refine (r06_Is.calls k a0 false _ A2.out).mono ?_);rintro e w' ⟨rfl,⟨nd,rfl⟩⟩;refine ⟨_,rfl,?_⟩))
  go_ret
  exact ⟨by first | rfl | (simp [eN,eS] <;> rfl) | (simp [*,eN,eS] <;> rfl),by repeat (first | (with_reducible first | exact HB.out | apply bA | apply bN | apply bD) | exact HB.out)⟩
/-! ### r06_Always: function 69 -/
def r06_Always.f (k : Nat) (a0 : ByteArray) : Option (Bool):=(r06_In.f k (([(⟨#[79,98,106,101,99,116]⟩ : ByteArray),(⟨#[78,105,108]⟩ : ByteArray),(⟨#[66,111,111,108,101,97,110]⟩ : ByteArray),(⟨#[73,110,116,101,103,101,114]⟩ : ByteArray),(⟨#[83,116,114,105,110,103]⟩ : ByteArray),(⟨#[83,121,109,98,111,108]⟩ : ByteArray),(⟨#[65,114,114,97,121]⟩ : ByteArray),(⟨#[66,108,111,99,107]⟩ : ByteArray),(⟨#[67,108,97,115,115]⟩ : ByteArray),(⟨#[83,121,115,116,101,109]⟩ : ByteArray)] : List ByteArray)) a0).bind fun t171=>(some t171)
theorem r06_Always.mono : ∀ a0 k,LeO (r06_Always.f k a0) (r06_Always.f (k + 1) a0):=by
 intro a0 k
 unfold r06_Always.f
 repeat' first
   | (with_reducible exact r06_In.mono _ _ _)
   | (with_reducible exact LeO.refl _)
   | (with_reducible exact LeO.none _)
   | (with_reducible refine LeO.ite ?_ ?_)
   | (with_reducible refine LeO.bind ?_ (fun _=>?_))
   | exact r06_In.mono _ _ _
   | exact LeO.none _
   | refine LeO.ite ?_ ?_
   | refine LeO.bind ?_ (fun _=>?_)
theorem r06_Always.calls (k : Nat) (a0 : ByteArray) (r : Bool) (w : World) (h : r06_Always.f k a0 = some r) :
  Calls Tryz.prog 69 #[.string a0] w fun e w'=>e = .returned (.bool r) ∧ Below w.heap.size w w':=by
 have HB:=As.mk (Below.refl w.heap.size w)
 have H : ((r06_In.f k (([(⟨#[79,98,106,101,99,116]⟩ : ByteArray),(⟨#[78,105,108]⟩ : ByteArray),(⟨#[66,111,111,108,101,97,110]⟩ : ByteArray),(⟨#[73,110,116,101,103,101,114]⟩ : ByteArray),(⟨#[83,116,114,105,110,103]⟩ : ByteArray),(⟨#[83,121,109,98,111,108]⟩ : ByteArray),(⟨#[65,114,114,97,121]⟩ : ByteArray),(⟨#[66,108,111,99,107]⟩ : ByteArray),(⟨#[67,108,97,115,115]⟩ : ByteArray),(⟨#[83,121,115,116,101,109]⟩ : ByteArray)] : List ByteArray)) a0).bind fun t171=>(some t171)) = some r:=h
 clear h
 obtain ⟨y168,hy168⟩ : ∃ y_ : List ByteArray,y_ = (([(⟨#[79,98,106,101,99,116]⟩ : ByteArray),(⟨#[78,105,108]⟩ : ByteArray),(⟨#[66,111,111,108,101,97,110]⟩ : ByteArray),(⟨#[73,110,116,101,103,101,114]⟩ : ByteArray),(⟨#[83,116,114,105,110,103]⟩ : ByteArray),(⟨#[83,121,109,98,111,108]⟩ : ByteArray),(⟨#[65,114,114,97,121]⟩ : ByteArray),(⟨#[66,108,111,99,107]⟩ : ByteArray),(⟨#[67,108,97,115,115]⟩ : ByteArray),(⟨#[83,121,115,116,101,109]⟩ : ByteArray)] : List ByteArray)):=⟨_,rfl⟩
 replace H : ((r06_In.f k y168 a0).bind fun t171=>(some t171)) = some r:=by first | (rw [hy168];with_reducible exact H) | (have H2_:=(Option.bind_some _ _).symm.trans H;rw [hy168];with_reducible exact H2_) | (have H2_:=(Option.bind_some _ _).symm.trans H;with_reducible exact H2_) | with_reducible exact H | (rw [hy168];exact H) | exact H
 have Ny168:=As.mk hy168
 clear hy168
 replace H:=Option.bind_eq_some_iff.mp H
 obtain ⟨t171,A20,H⟩:=H
 replace H : (some t171) = some r:=H
 have A2:=As.mk A20
 clear A20
 obtain rfl:=Option.some.inj H
 go_enter Tryz.func69,Tryz.ntmps69
 go_wp2_with (first | ((with_reducible refine gate_dst (N:=3) rfl ?_);refine Kd.R_lit Kd.string _ 9 ?hg (N:=3) ?hd (xs:=([(⟨#[79,98,106,101,99,116]⟩ : ByteArray),(⟨#[78,105,108]⟩ : ByteArray),(⟨#[66,111,111,108,101,97,110]⟩ : ByteArray),(⟨#[73,110,116,101,103,101,114]⟩ : ByteArray),(⟨#[83,116,114,105,110,103]⟩ : ByteArray),(⟨#[83,121,109,98,111,108]⟩ : ByteArray),(⟨#[65,114,114,97,121]⟩ : ByteArray),(⟨#[66,108,111,99,107]⟩ : ByteArray),(⟨#[67,108,97,115,115]⟩ : ByteArray),(⟨#[83,121,115,116,101,109]⟩ : ByteArray)] : List ByteArray)) (inner:=[.string (⟨#[79,98,106,101,99,116]⟩ : ByteArray),.string (⟨#[78,105,108]⟩ : ByteArray),.string (⟨#[66,111,111,108,101,97,110]⟩ : ByteArray),.string (⟨#[73,110,116,101,103,101,114]⟩ : ByteArray),.string (⟨#[83,116,114,105,110,103]⟩ : ByteArray),.string (⟨#[83,121,109,98,111,108]⟩ : ByteArray),.string (⟨#[65,114,114,97,121]⟩ : ByteArray),.string (⟨#[66,108,111,99,107]⟩ : ByteArray),.string (⟨#[67,108,97,115,115]⟩ : ByteArray),.string (⟨#[83,121,115,116,101,109]⟩ : ByteArray)]) (ok:=fun _=>True) (okp:=fun _=>True) ?hr ?hp (fun _ hk=>hk) trivial (Below.refl _ _) (Nat.le_refl _) (by simp) ?_;(case hd=>rfl);(case hg=>rfl);(case hr=>first | (go_simp;done) | (go_simp;rfl));(case hp=>exact (Reps.one (show Kd.M Kd.string _ _ _ (⟨#[79,98,106,101,99,116]⟩ : ByteArray) [.string (⟨#[79,98,106,101,99,116]⟩ : ByteArray)] from rfl) (Reps.one (show Kd.M Kd.string _ _ _ (⟨#[78,105,108]⟩ : ByteArray) [.string (⟨#[78,105,108]⟩ : ByteArray)] from rfl) (Reps.one (show Kd.M Kd.string _ _ _ (⟨#[66,111,111,108,101,97,110]⟩ : ByteArray) [.string (⟨#[66,111,111,108,101,97,110]⟩ : ByteArray)] from rfl) (Reps.one (show Kd.M Kd.string _ _ _ (⟨#[73,110,116,101,103,101,114]⟩ : ByteArray) [.string (⟨#[73,110,116,101,103,101,114]⟩ : ByteArray)] from rfl) (Reps.one (show Kd.M Kd.string _ _ _ (⟨#[83,116,114,105,110,103]⟩ : ByteArray) [.string (⟨#[83,116,114,105,110,103]⟩ : ByteArray)] from rfl) (Reps.one (show Kd.M Kd.string _ _ _ (⟨#[83,121,109,98,111,108]⟩ : ByteArray) [.string (⟨#[83,121,109,98,111,108]⟩ : ByteArray)] from rfl) (Reps.one (show Kd.M Kd.string _ _ _ (⟨#[65,114,114,97,121]⟩ : ByteArray) [.string (⟨#[65,114,114,97,121]⟩ : ByteArray)] from rfl) (Reps.one (show Kd.M Kd.string _ _ _ (⟨#[66,108,111,99,107]⟩ : ByteArray) [.string (⟨#[66,108,111,99,107]⟩ : ByteArray)] from rfl) (Reps.one (show Kd.M Kd.string _ _ _ (⟨#[67,108,97,115,115]⟩ : ByteArray) [.string (⟨#[67,108,97,115,115]⟩ : ByteArray)] from rfl) (Reps.one (show Kd.M Kd.string _ _ _ (⟨#[83,121,115,116,101,109]⟩ : ByteArray) [.string (⟨#[83,121,115,116,101,109]⟩ : ByteArray)] from rfl) (Reps.none _ _))))))))))));intro v169 w3 ho4 hb hg_ hnew_;clear hg_ hnew_;(first | rw [← Ny168.out] at ho4 | (simp only [Int.reduceToNat] at ho4;rw [← Ny168.out] at ho4));have n0_:=As.mk (Kd.R_lower ho4 (bZ (by repeat (first | (with_reducible first | exact HB.out | apply bA | apply bN | apply bD) | exact HB.out))));have n1_:=As.mk (bS (by repeat (first | (with_reducible first | exact HB.out | apply bA | apply bN | apply bD) | exact HB.out)) hb);clear HB;have HO170:=n0_;have HB:=n1_;clear n0_ n1_;clear hb ho4;obtain ⟨Ao5,co5,eo5⟩:=Kd.R_slice HO170.out;subst eo5) | ((with_reducible refine gC (f:=68) rfl ?_);refine goesL_ (some 5) rfl rfl Tryz.func68 (by kernel_rfl) rfl #[.slice Ao5 y168.length co5,.string a0] rfl (by (try simp only [List.map_toArray,List.map_cons,List.map_nil]);first | done | rfl | (simp only [List.length_drop,List.length_take];rfl)) ?_;(with_reducible refine (r06_In.calls k _ _ y168 a0 t171 _ ?side1 ?side2 A2.out).mono ?_);(case side1=>repeat (first | exact (Kd.R_reads' HO170.out).2.2 | (with_reducible refine Kd.C_alloc ?_ _) | (with_reducible refine Kd.C_drewN ?_ _) | (with_reducible refine Kd.C_drew ?_)));(case side2=>exact (Kd.R_reads' HO170.out).2.1);rintro e w' ⟨rfl,⟨nd,rfl⟩⟩;refine ⟨_,rfl,?_⟩))
 go_ret
 exact ⟨by first | rfl | (simp [eN,eS] <;> rfl) | (simp [*,eN,eS] <;> rfl),by repeat (first | (with_reducible first | exact HB.out | apply bA | apply bN | apply bD) | exact HB.out)⟩
/-! ### r06_Keywords: function 109 -/
def r06_Keywords.l0 : Nat → ByteArray → List ByteArray → Int → Int → Option (List ByteArray)
 | 0,_,_,_,_=>none
 | k + 1,x0,x3,x4,x5=>if x5 < (x0.size : Int) then (if 0 ≤ x5 then (if (bt x0 x5) = 58 then (if 0 ≤ x4 then (if x4 ≤ x5 then (if x5 ≤ (x0.size : Int) then ((r06_Is.f k (x0.extract (x4 : Int).toNat (x5 : Int).toNat)).bind fun t172=>(if t172 = true then (if 0 < ((x0.extract (x4 : Int).toNat (x5 : Int).toNat).size : Int) then ((r06_small.f (bt (x0.extract (x4 : Int).toNat (x5 : Int).toNat) 0)).bind fun t173=>(if t173 = true then (if x4 ≤ (wrap64 (x5 + 1)) then (if (wrap64 (x5 + 1)) ≤ (x0.size : Int) then (if x3.length < 8796093022208 then (r06_Keywords.l0 k x0 (x3 ++ [x0.extract (x4 : Int).toNat ((wrap64 (x5 + 1)) : Int).toNat]) (wrap64 (x5 + 1)) (wrap64 (x5 + 1))) else (none)) else (none)) else (none)) else (some ([] : List ByteArray)))) else (none)) else (some ([] : List ByteArray)))) else (none)) else (none)) else (none)) else (r06_Keywords.l0 k x0 x3 x4 (wrap64 (x5 + 1)))) else (none)) else (if x4 = (x0.size : Int) then (if (x3.length : Int) > 10 then (some ([] : List ByteArray)) else (some x3)) else (some ([] : List ByteArray)))
def r06_Keywords.f (k : Nat) (a0 : ByteArray) : Option (List ByteArray):=r06_Keywords.l0 k a0 ([] : List ByteArray) 0 0
theorem r06_Keywords.mono_l : ∀ k,(∀ y0 y1 y2 y3,LeO (r06_Keywords.l0 k y0 y1 y2 y3) (r06_Keywords.l0 (k + 1) y0 y1 y2 y3))
 | 0=>fun _ _ _ _ r h=>by simp [r06_Keywords.l0] at h
 | k + 1=>by
  have ih0:=r06_Keywords.mono_l k
  ·intro y0 y1 y2 y3
   unfold r06_Keywords.l0
   repeat' first
   | (with_reducible exact ih0 _ _ _ _)
   | (with_reducible exact r06_Is.mono _ _)
   | (with_reducible exact LeO.refl _)
   | (with_reducible exact LeO.none _)
   | (with_reducible refine LeO.ite ?_ ?_)
   | (with_reducible refine LeO.bind ?_ (fun _=>?_))
   | exact ih0 _ _ _ _
   | exact r06_Is.mono _ _
   | exact LeO.none _
   | refine LeO.ite ?_ ?_
   | refine LeO.bind ?_ (fun _=>?_)
theorem r06_Keywords.mono : ∀ a0 k,LeO (r06_Keywords.f k a0) (r06_Keywords.f (k + 1) a0):=by
 intro a0 k
 have ih0:=r06_Keywords.mono_l k
 unfold r06_Keywords.f
 repeat' first
   | (with_reducible exact ih0 _ _ _ _)
   | (with_reducible exact r06_Is.mono _ _)
   | (with_reducible exact LeO.refl _)
   | (with_reducible exact LeO.none _)
   | (with_reducible refine LeO.ite ?_ ?_)
   | (with_reducible refine LeO.bind ?_ (fun _=>?_))
   | exact ih0 _ _ _ _
   | exact r06_Is.mono _ _
   | exact LeO.none _
   | refine LeO.ite ?_ ?_
   | refine LeO.bind ?_ (fun _=>?_)
theorem r06_Keywords.calls (k : Nat) (a0 : ByteArray) (r : List ByteArray) (w : World) (h : r06_Keywords.f k a0 = some r) :
  Calls Tryz.prog 109 #[.string a0] w fun e w'=>∃ v0_ : Value,e = .returned (v0_) ∧ Kd.R Kd.string 9 w' w.heap.size (fun _=>True) v0_ r ∧ Below w.heap.size w w':=by
 have HB:=As.mk (Below.refl w.heap.size w)
 have H : (r06_Keywords.l0 k a0 ([] : List ByteArray) 0 0) = some r:=h
 clear h
 have H':=As.mk H
 clear H
 go_enter Tryz.func109,Tryz.ntmps109
 go_wp2
 go_loopg [3,4,5] k (fun kq v3 v4 v5 w'=>∃ (x3_1 : List ByteArray) (x4_1 : Int) (x5_1 : Int),v4 = .int .i64 x4_1 ∧ v5 = .int .i64 x5_1 ∧ As (r06_Keywords.l0 kq a0 x3_1 x4_1 x5_1 = some r) ∧ As (kq ≤ k) ∧ As (Kd.R Kd.string 9 w' w.heap.size (fun _=>True) v3 x3_1) ∧ As (Below w.heap.size w w'))
 case atStart=>exact ⟨(([] : List ByteArray)),(0),(0),(by first | rfl | (simp;done) | (simp [*];done)),(by first | rfl | (simp;done) | (simp [*];done)),H',⟨Nat.le_refl _⟩,⟨by first | exact Kd.R_nil _ _ _ _ _ | exact Kd.N_nil _ _ _ _ _ | exact Kd.V_nil _ _ _ _ _ | exact Kd.Q_nil _ _ _ _ _ | exact Kd.S_nil _ _ _ _ _⟩,⟨by repeat (first | (with_reducible first | exact HB.out | apply bA | apply bN | apply bD) | exact HB.out)⟩⟩
 case round =>
  clear H'
  try clear c1
  obtain ⟨x3_1,x4_1,x5_1,rfl,rfl,HA,HK1,HO_3,HB⟩:=hrel
  cases gk with
  | zero=>exact absurd HA.out (by simp [r06_Keywords.l0])
  | succ k1 =>
   have H:=HA.out
   clear HA
   simp only [r06_Keywords.l0] at H
   by_cases c2 : x5_1 < (a0.size : Int)
   ·rw [if_pos c2] at H
    have c2b0 : decide (x5_1 < (a0.size : Int)) = true:=decide_eq_true c2
    clear c2
    by_cases c3 : 0 ≤ x5_1
    ·rw [if_pos c3] at H
     have c3b0 : decide (0 ≤ x5_1) = true:=decide_eq_true c3
     clear c3
     by_cases c5 : (bt a0 x5_1) = 58
     ·rw [if_pos c5] at H
      have c5b0 : ((bt a0 x5_1) == 58) = true:=beq_iff_eq.mpr c5
      have c5b1 : ((bt a0 x5_1) != 58) = false:=bne_eq_false_iff_eq.mpr c5
      clear c5
      by_cases c6 : 0 ≤ x4_1
      ·rw [if_pos c6] at H
       have c6b0:=eq_true c6
       have c6b1 : decide (0 ≤ x4_1) = true:=decide_eq_true c6
       clear c6
       by_cases c7 : x4_1 ≤ x5_1
       ·rw [if_pos c7] at H
        have c7b0:=eq_true c7
        have c7b1 : decide (x4_1 ≤ x5_1) = true:=decide_eq_true c7
        clear c7
        by_cases c8 : x5_1 ≤ (a0.size : Int)
        ·rw [if_pos c8] at H
         have c8b0:=eq_true c8
         have c8b1 : decide (x5_1 ≤ (a0.size : Int)) = true:=decide_eq_true c8
         clear c8
         replace H:=Option.bind_eq_some_iff.mp H
         obtain ⟨t172,A90,H⟩:=H
         replace H : (if t172 = true then (if 0 < ((a0.extract (x4_1 : Int).toNat (x5_1 : Int).toNat).size : Int) then ((r06_small.f (bt (a0.extract (x4_1 : Int).toNat (x5_1 : Int).toNat) 0)).bind fun t173=>(if t173 = true then (if x4_1 ≤ (wrap64 (x5_1 + 1)) then (if (wrap64 (x5_1 + 1)) ≤ (a0.size : Int) then (if x3_1.length < 8796093022208 then (r06_Keywords.l0 k1 a0 (x3_1 ++ [a0.extract (x4_1 : Int).toNat ((wrap64 (x5_1 + 1)) : Int).toNat]) (wrap64 (x5_1 + 1)) (wrap64 (x5_1 + 1))) else (none)) else (none)) else (none)) else (some ([] : List ByteArray)))) else (none)) else (some ([] : List ByteArray))) = some r:=H
         have A9:=As.mk A90
         clear A90
         by_cases c10 : t172 = true
         ·subst c10
          have H1 : (if 0 < ((a0.extract (x4_1 : Int).toNat (x5_1 : Int).toNat).size : Int) then ((r06_small.f (bt (a0.extract (x4_1 : Int).toNat (x5_1 : Int).toNat) 0)).bind fun t173=>(if t173 = true then (if x4_1 ≤ (wrap64 (x5_1 + 1)) then (if (wrap64 (x5_1 + 1)) ≤ (a0.size : Int) then (if x3_1.length < 8796093022208 then (r06_Keywords.l0 k1 a0 (x3_1 ++ [a0.extract (x4_1 : Int).toNat ((wrap64 (x5_1 + 1)) : Int).toNat]) (wrap64 (x5_1 + 1)) (wrap64 (x5_1 + 1))) else (none)) else (none)) else (none)) else (some ([] : List ByteArray)))) else (none)) = some r:=by rw [if_pos rfl] at H;exact H
          clear H
          have H:=H1
          clear H1
          by_cases c11 : 0 < ((a0.extract (x4_1 : Int).toNat (x5_1 : Int).toNat).size : Int)
          ·rw [if_pos c11] at H
           have c11b0 : decide (0 < ((a0.extract (x4_1 : Int).toNat (x5_1 : Int).toNat).size : Int)) = true:=decide_eq_true c11
           have c11b1 : decide (0 < (a0.extract (x4_1 : Int).toNat (x5_1 : Int).toNat).size) = true:=decide_eq_true (by omega)
           clear c11
           replace H:=Option.bind_eq_some_iff.mp H
           obtain ⟨t173,A130,H⟩:=H
           replace H : (if t173 = true then (if x4_1 ≤ (wrap64 (x5_1 + 1)) then (if (wrap64 (x5_1 + 1)) ≤ (a0.size : Int) then (if x3_1.length < 8796093022208 then (r06_Keywords.l0 k1 a0 (x3_1 ++ [a0.extract (x4_1 : Int).toNat ((wrap64 (x5_1 + 1)) : Int).toNat]) (wrap64 (x5_1 + 1)) (wrap64 (x5_1 + 1))) else (none)) else (none)) else (none)) else (some ([] : List ByteArray))) = some r:=H
           have A13:=As.mk A130
           clear A130
           by_cases c14 : t173 = true
           ·subst c14
            have H1 : (if x4_1 ≤ (wrap64 (x5_1 + 1)) then (if (wrap64 (x5_1 + 1)) ≤ (a0.size : Int) then (if x3_1.length < 8796093022208 then (r06_Keywords.l0 k1 a0 (x3_1 ++ [a0.extract (x4_1 : Int).toNat ((wrap64 (x5_1 + 1)) : Int).toNat]) (wrap64 (x5_1 + 1)) (wrap64 (x5_1 + 1))) else (none)) else (none)) else (none)) = some r:=by rw [if_pos rfl] at H;exact H
            clear H
            have H:=H1
            clear H1
            have c15b0:=eq_true (of_decide_eq_true (by first | (with_reducible assumption) | assumption) : 0 ≤ x4_1)
            by_cases c16 : x4_1 ≤ (wrap64 (x5_1 + 1))
            ·rw [if_pos c16] at H
             have c16b0:=eq_true c16
             have c16b1 : decide (x4_1 ≤ (wrap64 (x5_1 + 1))) = true:=decide_eq_true c16
             by_cases c17 : (wrap64 (x5_1 + 1)) ≤ (a0.size : Int)
             ·rw [if_pos c17] at H
              have c17b0:=eq_true c17
              have c17b1 : decide ((wrap64 (x5_1 + 1)) ≤ (a0.size : Int)) = true:=decide_eq_true c17
              by_cases c18 : x3_1.length < 8796093022208
              ·rw [if_pos c18] at H
               have LMc18:=As.mk c18
               clear c18
               obtain ⟨y174,hy174⟩ : ∃ y_ : List ByteArray,y_ = (x3_1 ++ [a0.extract (x4_1 : Int).toNat ((wrap64 (x5_1 + 1)) : Int).toNat]):=⟨_,rfl⟩
               replace H : (r06_Keywords.l0 k1 a0 y174 (wrap64 (x5_1 + 1)) (wrap64 (x5_1 + 1))) = some r:=by first | (rw [hy174];with_reducible exact H) | (have H2_:=(Option.bind_some _ _).symm.trans H;rw [hy174];with_reducible exact H2_) | (have H2_:=(Option.bind_some _ _).symm.trans H;with_reducible exact H2_) | with_reducible exact H | (rw [hy174];exact H) | exact H
               have Ny174:=As.mk hy174
               clear hy174
               have H':=As.mk H
               clear H
               have p4 : 0 ≤ (x5_1 : Int):=of_decide_eq_true (by first | (with_reducible assumption) | assumption)
               have q4 : x5_1 < (a0.size : Int):=of_decide_eq_true (by first | (with_reducible assumption) | assumption)
               have hx4:=bt_at a0 x5_1
               replace p4:=eq_true p4
               replace q4:=eq_true q4
               go_wp2_with (first | ((with_reducible refine gC (f:=107) rfl ?_);refine goesL_ (some 22) rfl rfl Tryz.func107 (by kernel_rfl) rfl #[.string (a0.extract (x4_1 : Int).toNat (x5_1 : Int).toNat)] rfl (by (try simp only [List.map_toArray,List.map_cons,List.map_nil]);first | done | rfl | (simp only [List.length_drop,List.length_take];rfl)) ?_;(with_reducible refine (r06_Is.calls k1 (a0.extract (x4_1 : Int).toNat (x5_1 : Int).toNat) true _ A9.out).mono ?_);rintro e w' ⟨rfl,⟨nd,rfl⟩⟩;refine ⟨_,rfl,?_⟩;have p12 : 0 ≤ (0 : Int):=(by omega);have q12 : 0 < (a0.extract (x4_1 : Int).toNat (x5_1 : Int).toNat).size:=(by have : (0 : Int) < ((a0.extract (x4_1 : Int).toNat (x5_1 : Int).toNat).size : Int):=of_decide_eq_true (by first | (with_reducible assumption) | assumption);omega);have hx12 : ∀ h : 0 < (a0.extract (x4_1 : Int).toNat (x5_1 : Int).toNat).size,(((a0.extract (x4_1 : Int).toNat (x5_1 : Int).toNat)[0]'h).toNat : Int) = bt (a0.extract (x4_1 : Int).toNat (x5_1 : Int).toNat) 0:=bt_at (a0.extract (x4_1 : Int).toNat (x5_1 : Int).toNat) 0;clear p12;have qi12 : (0 < ((a0.extract (x4_1 : Int).toNat (x5_1 : Int).toNat).size : Int)) = True:=eq_true (of_decide_eq_true (by first | (with_reducible assumption) | assumption));replace q12:=eq_true q12;(try have qz12 : (0 < (x5_1 : Int).toNat - (x4_1 : Int).toNat) = True:=eq_true (by have q_ : 0 < (a0.extract (x4_1 : Int).toNat (x5_1 : Int).toNat).size:=of_eq_true q12;rw [ByteArray.size_extract] at q_;omega))) | (go_at_call 108;(with_reducible refine (r06_small.calls (bt (a0.extract (x4_1 : Int).toNat (x5_1 : Int).toNat) 0) true _ A13.out).mono ?_);rintro e w' ⟨rfl,⟨nd,rfl⟩⟩) | ((with_reducible refine gB (b:=.append) (xs:=#[.tmp 30,.tmp 36]) rfl ?_);(try (refine gate_guard (by rfl) ?_;dsimp only));at_builtin;refine Kd.R_append Kd.string (w0:=w) w.heap.size rfl (.tmp 30) (.tmp 36) 32 9 (.string ⟨#[]⟩) 16 rfl Tryz.underlying32 info9 rfl (by decide) (by omega) u3 x3_1 (a0.extract (x4_1 : Int).toNat ((wrap64 (x5_1 + 1)) : Int).toNat) [.string (a0.extract (x4_1 : Int).toNat ((wrap64 (x5_1 + 1)) : Int).toNat)] (fun _=>True) (fun _=>False) rfl rfl ?aP (fun _ hk=>hk.elim) ?aF ?aO ?aB ?aS ?aL ?_;(case aP=>exact rfl);(case aB=>exact (by repeat (first | (with_reducible first | exact HB.out | apply bA | apply bN | apply bD) | exact HB.out)));(case aF=>exact (fun _ _=>trivial));(case aO=>exact (by (with_reducible repeat (first | apply Kd.R_alloc | apply Kd.R_drewN | apply Kd.R_drew));exact HO_3.out));(case aS=>exact (bZ (by repeat (first | (with_reducible first | exact HB.out | apply bA | apply bN | apply bD) | exact HB.out))));(case aL=>have:=LMc18.out;omega);intro v175 w19 ho hb hg hat;rw [← Ny174.out] at ho;have n0_:=As.mk (hb);have n1_:=As.mk (ho);clear HB;clear HO_3;have HB:=n0_;have HO176:=n1_;clear n0_ n1_;clear ho hb hg hat))
               go_roundg k1
               case measure=>have:=HK1.out;omega
               case rel=>exact ⟨(y174),(wrap64 (x5_1 + 1)),(wrap64 (x5_1 + 1)),(by first | rfl | (simp;done) | (simp [*];done)),(by first | rfl | (simp;done) | (simp [*];done)),H',⟨by have:=HK1.out;omega⟩,⟨by (with_reducible repeat (first | apply Kd.R_alloc | apply Kd.R_drewN | apply Kd.R_drew));exact HO176.out⟩,⟨by repeat (first | (with_reducible first | exact HB.out | apply bA | apply bN | apply bD) | exact HB.out)⟩⟩
              ·rw [if_neg c18] at H
               exact absurd H (by simp)
             ·rw [if_neg c17] at H
              exact absurd H (by simp)
            ·rw [if_neg c16] at H
             exact absurd H (by simp)
           ·replace c14:=Bool.eq_false_iff.mpr c14
            subst c14
            have H1 : (some ([] : List ByteArray)) = some r:=by rw [if_neg (show ¬ (false = true) by decide)] at H;exact H
            clear H
            have H:=H1
            clear H1
            obtain rfl:=Option.some.inj H
            have p4 : 0 ≤ (x5_1 : Int):=of_decide_eq_true (by first | (with_reducible assumption) | assumption)
            have q4 : x5_1 < (a0.size : Int):=of_decide_eq_true (by first | (with_reducible assumption) | assumption)
            have hx4:=bt_at a0 x5_1
            replace p4:=eq_true p4
            replace q4:=eq_true q4
            go_wp2_with (first | ((with_reducible refine gC (f:=107) rfl ?_);refine goesL_ (some 22) rfl rfl Tryz.func107 (by kernel_rfl) rfl #[.string (a0.extract (x4_1 : Int).toNat (x5_1 : Int).toNat)] rfl (by (try simp only [List.map_toArray,List.map_cons,List.map_nil]);first | done | rfl | (simp only [List.length_drop,List.length_take];rfl)) ?_;(with_reducible refine (r06_Is.calls k1 (a0.extract (x4_1 : Int).toNat (x5_1 : Int).toNat) true _ A9.out).mono ?_);rintro e w' ⟨rfl,⟨nd,rfl⟩⟩;refine ⟨_,rfl,?_⟩;have p12 : 0 ≤ (0 : Int):=(by omega);have q12 : 0 < (a0.extract (x4_1 : Int).toNat (x5_1 : Int).toNat).size:=(by have : (0 : Int) < ((a0.extract (x4_1 : Int).toNat (x5_1 : Int).toNat).size : Int):=of_decide_eq_true (by first | (with_reducible assumption) | assumption);omega);have hx12 : ∀ h : 0 < (a0.extract (x4_1 : Int).toNat (x5_1 : Int).toNat).size,(((a0.extract (x4_1 : Int).toNat (x5_1 : Int).toNat)[0]'h).toNat : Int) = bt (a0.extract (x4_1 : Int).toNat (x5_1 : Int).toNat) 0:=bt_at (a0.extract (x4_1 : Int).toNat (x5_1 : Int).toNat) 0;clear p12;have qi12 : (0 < ((a0.extract (x4_1 : Int).toNat (x5_1 : Int).toNat).size : Int)) = True:=eq_true (of_decide_eq_true (by first | (with_reducible assumption) | assumption));replace q12:=eq_true q12;(try have qz12 : (0 < (x5_1 : Int).toNat - (x4_1 : Int).toNat) = True:=eq_true (by have q_ : 0 < (a0.extract (x4_1 : Int).toNat (x5_1 : Int).toNat).size:=of_eq_true q12;rw [ByteArray.size_extract] at q_;omega))) | (go_at_call 108;(with_reducible refine (r06_small.calls (bt (a0.extract (x4_1 : Int).toNat (x5_1 : Int).toNat) 0) false _ A13.out).mono ?_);rintro e w' ⟨rfl,⟨nd,rfl⟩⟩))
            go_ret
            exact ⟨_,by first | rfl | (simp [eN,eS] <;> rfl) | (simp [*,eN,eS] <;> rfl),by first | exact Kd.R_nil _ _ _ _ _ | exact Kd.N_nil _ _ _ _ _ | exact Kd.V_nil _ _ _ _ _ | exact Kd.Q_nil _ _ _ _ _ | exact Kd.S_nil _ _ _ _ _,by repeat (first | (with_reducible first | exact HB.out | apply bA | apply bN | apply bD) | exact HB.out)⟩
          ·rw [if_neg c11] at H
           exact absurd H (by simp)
         ·replace c10:=Bool.eq_false_iff.mpr c10
          subst c10
          have H1 : (some ([] : List ByteArray)) = some r:=by rw [if_neg (show ¬ (false = true) by decide)] at H;exact H
          clear H
          have H:=H1
          clear H1
          obtain rfl:=Option.some.inj H
          have p4 : 0 ≤ (x5_1 : Int):=of_decide_eq_true (by first | (with_reducible assumption) | assumption)
          have q4 : x5_1 < (a0.size : Int):=of_decide_eq_true (by first | (with_reducible assumption) | assumption)
          have hx4:=bt_at a0 x5_1
          replace p4:=eq_true p4
          replace q4:=eq_true q4
          go_wp2_with (first | ((with_reducible refine gC (f:=107) rfl ?_);refine goesL_ (some 22) rfl rfl Tryz.func107 (by kernel_rfl) rfl #[.string (a0.extract (x4_1 : Int).toNat (x5_1 : Int).toNat)] rfl (by (try simp only [List.map_toArray,List.map_cons,List.map_nil]);first | done | rfl | (simp only [List.length_drop,List.length_take];rfl)) ?_;(with_reducible refine (r06_Is.calls k1 (a0.extract (x4_1 : Int).toNat (x5_1 : Int).toNat) false _ A9.out).mono ?_);rintro e w' ⟨rfl,⟨nd,rfl⟩⟩;refine ⟨_,rfl,?_⟩))
          go_ret
          exact ⟨_,by first | rfl | (simp [eN,eS] <;> rfl) | (simp [*,eN,eS] <;> rfl),by first | exact Kd.R_nil _ _ _ _ _ | exact Kd.N_nil _ _ _ _ _ | exact Kd.V_nil _ _ _ _ _ | exact Kd.Q_nil _ _ _ _ _ | exact Kd.S_nil _ _ _ _ _,by repeat (first | (with_reducible first | exact HB.out | apply bA | apply bN | apply bD) | exact HB.out)⟩
        ·rw [if_neg c8] at H
         exact absurd H (by simp)
       ·rw [if_neg c7] at H
        exact absurd H (by simp)
      ·rw [if_neg c6] at H
       exact absurd H (by simp)
     ·rw [if_neg c5] at H
      have c5b0 : ((bt a0 x5_1) == 58) = false:=beq_eq_false_iff_ne.mpr c5
      have c5b1 : ((bt a0 x5_1) != 58) = true:=bne_iff_ne.mpr c5
      have H':=As.mk H
      clear H
      have p4 : 0 ≤ (x5_1 : Int):=of_decide_eq_true (by first | (with_reducible assumption) | assumption)
      have q4 : x5_1 < (a0.size : Int):=of_decide_eq_true (by first | (with_reducible assumption) | assumption)
      have hx4:=bt_at a0 x5_1
      replace p4:=eq_true p4
      replace q4:=eq_true q4
      go_wp2
      go_roundg k1
      case measure=>have:=HK1.out;omega
      case rel=>exact ⟨(x3_1),(x4_1),(wrap64 (x5_1 + 1)),(by first | rfl | (simp;done) | (simp [*];done)),(by first | rfl | (simp;done) | (simp [*];done)),H',⟨by have:=HK1.out;omega⟩,⟨by (with_reducible repeat (first | apply Kd.R_alloc | apply Kd.R_drewN | apply Kd.R_drew));exact HO_3.out⟩,⟨by repeat (first | (with_reducible first | exact HB.out | apply bA | apply bN | apply bD) | exact HB.out)⟩⟩
    ·rw [if_neg c3] at H
     exact absurd H (by simp)
   ·rw [if_neg c2] at H
    have c2b0 : decide (x5_1 < (a0.size : Int)) = false:=decide_eq_false c2
    clear c2
    by_cases c20 : x4_1 = (a0.size : Int)
    ·rw [if_pos c20] at H
     have c20b0 : (x4_1 == (a0.size : Int)) = true:=beq_iff_eq.mpr c20
     have c20b1 : (x4_1 != (a0.size : Int)) = false:=bne_eq_false_iff_eq.mpr c20
     clear c20
     by_cases c21 : (x3_1.length : Int) > 10
     ·rw [if_pos c21] at H
      have c21b0 : decide (10 < (x3_1.length : Int)) = true:=decide_eq_true c21
      have c21b1 : decide (10 < x3_1.length) = true:=decide_eq_true (by omega)
      clear c21
      obtain rfl:=Option.some.inj H
      obtain ⟨Ao22,co22,eo22⟩:=Kd.R_slice HO_3.out
      subst eo22
      go_wp2
      go_ret
      exact ⟨_,by first | rfl | (simp [eN,eS] <;> rfl) | (simp [*,eN,eS] <;> rfl),by first | exact Kd.R_nil _ _ _ _ _ | exact Kd.N_nil _ _ _ _ _ | exact Kd.V_nil _ _ _ _ _ | exact Kd.Q_nil _ _ _ _ _ | exact Kd.S_nil _ _ _ _ _,by repeat (first | (with_reducible first | exact HB.out | apply bA | apply bN | apply bD) | exact HB.out)⟩
     ·rw [if_neg c21] at H
      have c21b0 : decide (10 < (x3_1.length : Int)) = false:=decide_eq_false c21
      have c21b1 : decide (10 < x3_1.length) = false:=decide_eq_false (by omega)
      clear c21
      obtain rfl:=Option.some.inj H
      obtain ⟨Ao23,co23,eo23⟩:=Kd.R_slice HO_3.out
      subst eo23
      go_wp2
      go_ret
      exact ⟨_,by first | rfl | (simp [eN,eS] <;> rfl) | (simp [*,eN,eS] <;> rfl),by (with_reducible repeat (first | apply Kd.R_alloc | apply Kd.R_drewN | apply Kd.R_drew));exact HO_3.out,by repeat (first | (with_reducible first | exact HB.out | apply bA | apply bN | apply bD) | exact HB.out)⟩
    ·rw [if_neg c20] at H
     have c20b0 : (x4_1 == (a0.size : Int)) = false:=beq_eq_false_iff_ne.mpr c20
     have c20b1 : (x4_1 != (a0.size : Int)) = true:=bne_iff_ne.mpr c20
     obtain rfl:=Option.some.inj H
     go_wp2
     go_ret
     exact ⟨_,by first | rfl | (simp [eN,eS] <;> rfl) | (simp [*,eN,eS] <;> rfl),by first | exact Kd.R_nil _ _ _ _ _ | exact Kd.N_nil _ _ _ _ _ | exact Kd.V_nil _ _ _ _ _ | exact Kd.Q_nil _ _ _ _ _ | exact Kd.S_nil _ _ _ _ _,by repeat (first | (with_reducible first | exact HB.out | apply bA | apply bN | apply bD) | exact HB.out)⟩
end Go.Proofs.YtmlebgikdegjjaaGreatDoor.PAll
