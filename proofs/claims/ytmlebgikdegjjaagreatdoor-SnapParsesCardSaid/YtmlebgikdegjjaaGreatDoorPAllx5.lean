import Derived.Test.YtmlebgikdegjjaaGreatDoorPAllx0
import Derived.Test.YtmlebgikdegjjaaGreatDoorPAllx3
import Derived.Test.YtmlebgikdegjjaaGreatDoorPAllx4
set_option maxHeartbeats 8000000
set_option maxRecDepth 100000
namespace Go.Proofs.YtmlebgikdegjjaaGreatDoor.PAll
open Go.RowKit Go.Proofs.YtmlebgikdegjjaaGreatDoorW.PrintWords Go.Proofs.YtmlebgikdegjjaaGreatDoorW.PrintLast Go.Proofs.YtmlebgikdegjjaaGreatDoorW.PrintMore
attribute [local go_sem] max2_int min2_int max_two min_two max_three min_three max_four min_four   -- for this text's walks alone
set_option linter.unusedVariables false
set_option linter.unusedSimpArgs false
/-! ### r06_Kind: function 70 -/
mutual
def r06_Kind.j0 : Nat → ByteArray → Bool → Option (Int)
 | 0,_,_=>none
 | k + 1,x0,x11=>if x11 = true then (some 1) else (if (x0.size : Int) = 1 then (r06_Kind.j1 k x0 true) else (r06_Kind.j1 k x0 ((x0.size : Int) == 2)))
def r06_Kind.j1 : Nat → ByteArray → Bool → Option (Int)
 | 0,_,_=>none
 | k + 1,x0,x19=>if x19 = true then (r06_Kind.l0 k x0 true 0) else ((r06_Keywords.f k x0).bind fun t186=>(if (t186.length : Int) > 0 then (some 3) else (some 0)))
def r06_Kind.l0 : Nat → ByteArray → Bool → Int → Option (Int)
 | 0,_,_,_=>none
 | k + 1,x0,x3,x4=>if x4 < (x0.size : Int) then (if x3 = true then (if 0 ≤ x4 then (if x4 ≤ (wrap64 (x4 + 1)) then (if (wrap64 (x4 + 1)) ≤ (x0.size : Int) then ((r06_In.f k (([(⟨#[43]⟩ : ByteArray),(⟨#[45]⟩ : ByteArray),(⟨#[42]⟩ : ByteArray),(⟨#[47]⟩ : ByteArray),(⟨#[60]⟩ : ByteArray),(⟨#[62]⟩ : ByteArray),(⟨#[61]⟩ : ByteArray),(⟨#[126]⟩ : ByteArray),(⟨#[38]⟩ : ByteArray),(⟨#[44]⟩ : ByteArray),(⟨#[64]⟩ : ByteArray),(⟨#[37]⟩ : ByteArray)] : List ByteArray)) (x0.extract (x4 : Int).toNat ((wrap64 (x4 + 1)) : Int).toNat)).bind fun t182=>(r06_Kind.l0 k x0 t182 (wrap64 (x4 + 1)))) else (none)) else (none)) else (none)) else (r06_Kind.l0 k x0 false (wrap64 (x4 + 1)))) else (if x3 = true then (some 2) else ((r06_Keywords.f k x0).bind fun t183=>(if (t183.length : Int) > 0 then (some 3) else (some 0))))
end
def r06_Kind.f (k : Nat) (a0 : ByteArray) : Option (Int):=(r06_Is.f k a0).bind fun t177=>(if t177 = true then (if 0 < (a0.size : Int) then ((r06_small.f (bt a0 0)).bind fun t178=>(r06_Kind.j0 k a0 t178)) else (none)) else (r06_Kind.j0 k a0 false))
theorem r06_Kind.mono_l : ∀ k,(∀ y0 y1,LeO (r06_Kind.j0 k y0 y1) (r06_Kind.j0 (k + 1) y0 y1)) ∧ (∀ y0 y1,LeO (r06_Kind.j1 k y0 y1) (r06_Kind.j1 (k + 1) y0 y1)) ∧ (∀ y0 y1 y2,LeO (r06_Kind.l0 k y0 y1 y2) (r06_Kind.l0 (k + 1) y0 y1 y2))
 | 0=>⟨fun _ _ r h=>by simp [r06_Kind.j0] at h,fun _ _ r h=>by simp [r06_Kind.j1] at h,fun _ _ _ r h=>by simp [r06_Kind.l0] at h⟩
 | k + 1=>by
  obtain ⟨ih0,ih1,ih2⟩:=r06_Kind.mono_l k
  refine ⟨?_,?_,?_⟩
  ·intro y0 y1
   unfold r06_Kind.j0
   repeat' first
   | (with_reducible exact ih0 _ _)
   | (with_reducible exact ih1 _ _)
   | (with_reducible exact ih2 _ _ _)
   | (with_reducible exact r06_In.mono _ _ _)
   | (with_reducible exact r06_Is.mono _ _)
   | (with_reducible exact r06_Keywords.mono _ _)
   | (with_reducible exact LeO.refl _)
   | (with_reducible exact LeO.none _)
   | (with_reducible refine LeO.ite ?_ ?_)
   | (with_reducible refine LeO.bind ?_ (fun _=>?_))
   | exact ih0 _ _
   | exact ih1 _ _
   | exact ih2 _ _ _
   | exact r06_In.mono _ _ _
   | exact r06_Is.mono _ _
   | exact r06_Keywords.mono _ _
   | exact LeO.none _
   | refine LeO.ite ?_ ?_
   | refine LeO.bind ?_ (fun _=>?_)
  ·intro y0 y1
   unfold r06_Kind.j1
   repeat' first
   | (with_reducible exact ih0 _ _)
   | (with_reducible exact ih1 _ _)
   | (with_reducible exact ih2 _ _ _)
   | (with_reducible exact r06_In.mono _ _ _)
   | (with_reducible exact r06_Is.mono _ _)
   | (with_reducible exact r06_Keywords.mono _ _)
   | (with_reducible exact LeO.refl _)
   | (with_reducible exact LeO.none _)
   | (with_reducible refine LeO.ite ?_ ?_)
   | (with_reducible refine LeO.bind ?_ (fun _=>?_))
   | exact ih0 _ _
   | exact ih1 _ _
   | exact ih2 _ _ _
   | exact r06_In.mono _ _ _
   | exact r06_Is.mono _ _
   | exact r06_Keywords.mono _ _
   | exact LeO.none _
   | refine LeO.ite ?_ ?_
   | refine LeO.bind ?_ (fun _=>?_)
  ·intro y0 y1 y2
   unfold r06_Kind.l0
   repeat' first
   | (with_reducible exact ih0 _ _)
   | (with_reducible exact ih1 _ _)
   | (with_reducible exact ih2 _ _ _)
   | (with_reducible exact r06_In.mono _ _ _)
   | (with_reducible exact r06_Is.mono _ _)
   | (with_reducible exact r06_Keywords.mono _ _)
   | (with_reducible exact LeO.refl _)
   | (with_reducible exact LeO.none _)
   | (with_reducible refine LeO.ite ?_ ?_)
   | (with_reducible refine LeO.bind ?_ (fun _=>?_))
   | exact ih0 _ _
   | exact ih1 _ _
   | exact ih2 _ _ _
   | exact r06_In.mono _ _ _
   | exact r06_Is.mono _ _
   | exact r06_Keywords.mono _ _
   | exact LeO.none _
   | refine LeO.ite ?_ ?_
   | refine LeO.bind ?_ (fun _=>?_)
theorem r06_Kind.mono : ∀ a0 k,LeO (r06_Kind.f k a0) (r06_Kind.f (k + 1) a0):=by
 intro a0 k
 obtain ⟨ih0,ih1,ih2⟩:=r06_Kind.mono_l k
 unfold r06_Kind.f
 repeat' first
   | (with_reducible exact ih0 _ _)
   | (with_reducible exact ih1 _ _)
   | (with_reducible exact ih2 _ _ _)
   | (with_reducible exact r06_In.mono _ _ _)
   | (with_reducible exact r06_Is.mono _ _)
   | (with_reducible exact r06_Keywords.mono _ _)
   | (with_reducible exact LeO.refl _)
   | (with_reducible exact LeO.none _)
   | (with_reducible refine LeO.ite ?_ ?_)
   | (with_reducible refine LeO.bind ?_ (fun _=>?_))
   | exact ih0 _ _
   | exact ih1 _ _
   | exact ih2 _ _ _
   | exact r06_In.mono _ _ _
   | exact r06_Is.mono _ _
   | exact r06_Keywords.mono _ _
   | exact LeO.none _
   | refine LeO.ite ?_ ?_
   | refine LeO.bind ?_ (fun _=>?_)
theorem r06_Kind.calls (k : Nat) (a0 : ByteArray) (r : Int) (w : World) (h : r06_Kind.f k a0 = some r) :
  Calls Tryz.prog 70 #[.string a0] w fun e w'=>e = .returned (.int .i64 r) ∧ Below w.heap.size w w':=by
 have HB:=As.mk (Below.refl w.heap.size w)
 have H : ((r06_Is.f k a0).bind fun t177=>(if t177 = true then (if 0 < (a0.size : Int) then ((r06_small.f (bt a0 0)).bind fun t178=>(r06_Kind.j0 k a0 t178)) else (none)) else (r06_Kind.j0 k a0 false))) = some r:=h
 clear h
 have HC2:=As.mk H
 clear H
 go_enter Tryz.func70,Tryz.ntmps70
 go_upto_region 1 with (fail)
 go_cut [11] (fun v11 wc=>∃ (kq : Nat) (x11_1 : Bool),v11 = .bool x11_1 ∧ As (r06_Kind.j0 kq a0 x11_1 = some r) ∧ As (kq ≤ k) ∧ As (Below w.heap.size w wc))
 case first =>
  have H:=HC2.out
  clear HC2
  replace H:=Option.bind_eq_some_iff.mp H
  obtain ⟨t177,A30,H⟩:=H
  replace H : (if t177 = true then (if 0 < (a0.size : Int) then ((r06_small.f (bt a0 0)).bind fun t178=>(r06_Kind.j0 k a0 t178)) else (none)) else (r06_Kind.j0 k a0 false)) = some r:=H
  have A3:=As.mk A30
  clear A30
  by_cases c4 : t177 = true
  ·subst c4
   have H1 : (if 0 < (a0.size : Int) then ((r06_small.f (bt a0 0)).bind fun t178=>(r06_Kind.j0 k a0 t178)) else (none)) = some r:=by rw [if_pos rfl] at H;exact H
   clear H
   have H:=H1
   clear H1
   by_cases c5 : 0 < (a0.size : Int)
   ·rw [if_pos c5] at H
    have c5b0 : decide (0 < (a0.size : Int)) = true:=decide_eq_true c5
    have c5b1 : decide (0 < a0.size) = true:=decide_eq_true (by omega)
    clear c5
    (first | rw [c5b0] | (simp only [i64_w,i32_w];rw [c5b0]) | skip)
    replace H:=Option.bind_eq_some_iff.mp H
    obtain ⟨t178,A70,H⟩:=H
    replace H : (r06_Kind.j0 k a0 t178) = some r:=H
    have A7:=As.mk A70
    clear A70
    have H':=As.mk H
    clear H
    go_wp2_with (first | ((with_reducible refine gC (f:=107) rfl ?_);refine goesL_ (some 6) rfl rfl Tryz.func107 (by kernel_rfl) rfl #[.string a0] rfl (by (try simp only [List.map_toArray,List.map_cons,List.map_nil]);first | done | rfl | (simp only [List.length_drop,List.length_take];rfl)) ?_;(with_reducible refine (r06_Is.calls k a0 true _ A3.out).mono ?_);rintro e w' ⟨rfl,⟨nd,rfl⟩⟩;refine ⟨_,rfl,?_⟩;have p6 : 0 ≤ (0 : Int):=(by omega);have q6 : 0 < a0.size:=(by have : (0 : Int) < (a0.size : Int):=of_decide_eq_true (by first | (with_reducible assumption) | assumption);omega);have hx6 : ∀ h : 0 < a0.size,((a0[0]'h).toNat : Int) = bt a0 0:=bt_at a0 0;clear p6;have qi6 : (0 < (a0.size : Int)) = True:=eq_true (of_decide_eq_true (by first | (with_reducible assumption) | assumption));replace q6:=eq_true q6) | (go_at_call 108;(with_reducible refine (r06_small.calls (bt a0 0) t178 _ A7.out).mono ?_);rintro e w' ⟨rfl,⟨nd,rfl⟩⟩))
    go_meet
    case rel=>exact ⟨_,(t178),(by first | rfl | (simp;done) | (simp [*];done)),H',⟨by first | omega | exact Nat.le_refl _⟩,⟨by repeat (first | (with_reducible first | exact HB.out | apply bA | apply bN | apply bD) | exact HB.out)⟩⟩
   ·rw [if_neg c5] at H
    exact absurd H (by simp)
  ·replace c4:=Bool.eq_false_iff.mpr c4
   subst c4
   have H1 : (r06_Kind.j0 k a0 false) = some r:=by rw [if_neg (show ¬ (false = true) by decide)] at H;exact H
   clear H
   have H:=H1
   clear H1
   have H':=As.mk H
   clear H
   go_wp2_with (first | ((with_reducible refine gC (f:=107) rfl ?_);refine goesL_ (some 6) rfl rfl Tryz.func107 (by kernel_rfl) rfl #[.string a0] rfl (by (try simp only [List.map_toArray,List.map_cons,List.map_nil]);first | done | rfl | (simp only [List.length_drop,List.length_take];rfl)) ?_;(with_reducible refine (r06_Is.calls k a0 false _ A3.out).mono ?_);rintro e w' ⟨rfl,⟨nd,rfl⟩⟩;refine ⟨_,rfl,?_⟩))
   go_meet
   case rel=>exact ⟨_,(false),(by first | rfl | (simp;done) | (simp [*];done)),H',⟨by first | omega | exact Nat.le_refl _⟩,⟨by repeat (first | (with_reducible first | exact HB.out | apply bA | apply bN | apply bD) | exact HB.out)⟩⟩
 case rest =>
  clear HC2
  try clear c1
  try clear p2
  try clear c4
  try clear c5
  try clear c5b0
  try clear c5b1
  try clear p6
  try clear q6
  try clear hx6
  try clear qi6
  try clear c7
  try clear p6
  try clear q6
  obtain ⟨kq,x11_1,rfl,HA,HJ1,HB⟩:=hcut
  cases kq with
  | zero=>exact absurd HA.out (by simp [r06_Kind.j0])
  | succ kj1 =>
   have H:=HA.out
   clear HA
   simp only [r06_Kind.j0] at H
   by_cases c8 : x11_1 = true
   ·subst c8
    have H1 : (some 1) = some r:=by rw [if_pos rfl] at H;exact H
    clear H
    have H:=H1
    clear H1
    obtain rfl:=Option.some.inj H
    go_wp2
    go_ret
    exact ⟨by first | rfl | (simp [eN,eS] <;> rfl) | (simp [*,eN,eS] <;> rfl),by repeat (first | (with_reducible first | exact HB.out | apply bA | apply bN | apply bD) | exact HB.out)⟩
   ·replace c8:=Bool.eq_false_iff.mpr c8
    subst c8
    have H1 : (if (a0.size : Int) = 1 then (r06_Kind.j1 kj1 a0 true) else (r06_Kind.j1 kj1 a0 ((a0.size : Int) == 2))) = some r:=by rw [if_neg (show ¬ (false = true) by decide)] at H;exact H
    clear H
    have H:=H1
    clear H1
    have HC9:=As.mk H
    clear H
    go_upto_region 3 with (fail)
    go_cut [19] (fun v19 wc=>∃ (kq : Nat) (x19_8 : Bool),v19 = .bool x19_8 ∧ As (r06_Kind.j1 kq a0 x19_8 = some r) ∧ As (kq ≤ kj1) ∧ As (Below w.heap.size w wc))
    case first =>
     have H:=HC9.out
     clear HC9
     by_cases c10 : (a0.size : Int) = 1
     ·rw [if_pos c10] at H
      have c10b0 : ((a0.size : Int) == 1) = true:=beq_iff_eq.mpr c10
      have c10b1 : ((a0.size : Int) != 1) = false:=bne_eq_false_iff_eq.mpr c10
      clear c10
      (first | rw [c10b0] | (simp only [i64_w,i32_w];rw [c10b0]) | skip)
      have H':=As.mk H
      clear H
      go_wp2
      go_meet
      case rel=>exact ⟨_,(true),(by first | rfl | (simp;done) | (simp [*];done)),H',⟨by have:=HJ1.out;first | omega | exact Nat.le_refl _⟩,⟨by repeat (first | (with_reducible first | exact HB.out | apply bA | apply bN | apply bD) | exact HB.out)⟩⟩
     ·rw [if_neg c10] at H
      have c10b0 : ((a0.size : Int) == 1) = false:=beq_eq_false_iff_ne.mpr c10
      have c10b1 : ((a0.size : Int) != 1) = true:=bne_iff_ne.mpr c10
      (first | rw [c10b0] | (simp only [i64_w,i32_w];rw [c10b0]) | skip)
      have H':=As.mk H
      clear H
      go_wp2
      go_meet
      case rel=>exact ⟨_,(((a0.size : Int) == 2)),(by first | rfl | (simp;done) | (simp [*];done)),H',⟨by have:=HJ1.out;first | omega | exact Nat.le_refl _⟩,⟨by repeat (first | (with_reducible first | exact HB.out | apply bA | apply bN | apply bD) | exact HB.out)⟩⟩
    case rest =>
     clear HC9
     try clear c1
     try clear p2
     try clear c4
     try clear c5
     try clear c5b0
     try clear c5b1
     try clear p6
     try clear q6
     try clear hx6
     try clear qi6
     try clear c7
     try clear c8
     try clear c10
     try clear c10b0
     try clear c10b1
     try clear p2
     try clear p6
     try clear q6
     obtain ⟨kq,x19_8,rfl,HA,HJ8,HB⟩:=hcut
     cases kq with
     | zero=>exact absurd HA.out (by simp [r06_Kind.j1])
     | succ kj8 =>
      have H:=HA.out
      clear HA
      simp only [r06_Kind.j1] at H
      by_cases c11 : x19_8 = true
      ·subst c11
       have H1 : (r06_Kind.l0 kj8 a0 true 0) = some r:=by rw [if_pos rfl] at H;exact H
       clear H
       have H:=H1
       clear H1
       have H':=As.mk H
       clear H
       go_wp2
       go_loopg [3,4] kj8 (fun kq v3 v4 w'=>∃ (x3_3 : Bool) (x4_3 : Int),v3 = .bool x3_3 ∧ v4 = .int .i64 x4_3 ∧ As (r06_Kind.l0 kq a0 x3_3 x4_3 = some r) ∧ As (kq ≤ kj8) ∧ As (Below w.heap.size w w'))
       case atStart=>exact ⟨(true),(0),(by first | rfl | (simp;done) | (simp [*];done)),(by first | rfl | (simp;done) | (simp [*];done)),H',⟨Nat.le_refl _⟩,⟨by repeat (first | (with_reducible first | exact HB.out | apply bA | apply bN | apply bD) | exact HB.out)⟩⟩
       case round =>
        clear H'
        try clear c1
        try clear p2
        try clear c4
        try clear c5
        try clear c5b0
        try clear c5b1
        try clear p6
        try clear q6
        try clear hx6
        try clear qi6
        try clear c7
        try clear c8
        try clear c10
        try clear c10b0
        try clear c10b1
        try clear c11
        try clear p2
        try clear p6
        try clear q6
        obtain ⟨x3_3,x4_3,rfl,rfl,HA,HK3,HB⟩:=hrel
        cases gk with
        | zero=>exact absurd HA.out (by simp [r06_Kind.l0])
        | succ k3 =>
         have H:=HA.out
         clear HA
         simp only [r06_Kind.l0] at H
         by_cases c12 : x4_3 < (a0.size : Int)
         ·rw [if_pos c12] at H
          have c12b0 : decide (x4_3 < (a0.size : Int)) = true:=decide_eq_true c12
          clear c12
          by_cases c13 : x3_3 = true
          ·subst c13
           have H1 : (if 0 ≤ x4_3 then (if x4_3 ≤ (wrap64 (x4_3 + 1)) then (if (wrap64 (x4_3 + 1)) ≤ (a0.size : Int) then ((r06_In.f k3 (([(⟨#[43]⟩ : ByteArray),(⟨#[45]⟩ : ByteArray),(⟨#[42]⟩ : ByteArray),(⟨#[47]⟩ : ByteArray),(⟨#[60]⟩ : ByteArray),(⟨#[62]⟩ : ByteArray),(⟨#[61]⟩ : ByteArray),(⟨#[126]⟩ : ByteArray),(⟨#[38]⟩ : ByteArray),(⟨#[44]⟩ : ByteArray),(⟨#[64]⟩ : ByteArray),(⟨#[37]⟩ : ByteArray)] : List ByteArray)) (a0.extract (x4_3 : Int).toNat ((wrap64 (x4_3 + 1)) : Int).toNat)).bind fun t182=>(r06_Kind.l0 k3 a0 t182 (wrap64 (x4_3 + 1)))) else (none)) else (none)) else (none)) = some r:=by rw [if_pos rfl] at H;exact H
           clear H
           have H:=H1
           clear H1
           obtain ⟨y179,hy179⟩ : ∃ y_ : List ByteArray,y_ = (([(⟨#[43]⟩ : ByteArray),(⟨#[45]⟩ : ByteArray),(⟨#[42]⟩ : ByteArray),(⟨#[47]⟩ : ByteArray),(⟨#[60]⟩ : ByteArray),(⟨#[62]⟩ : ByteArray),(⟨#[61]⟩ : ByteArray),(⟨#[126]⟩ : ByteArray),(⟨#[38]⟩ : ByteArray),(⟨#[44]⟩ : ByteArray),(⟨#[64]⟩ : ByteArray),(⟨#[37]⟩ : ByteArray)] : List ByteArray)):=⟨_,rfl⟩
           replace H : (if 0 ≤ x4_3 then (if x4_3 ≤ (wrap64 (x4_3 + 1)) then (if (wrap64 (x4_3 + 1)) ≤ (a0.size : Int) then ((r06_In.f k3 y179 (a0.extract (x4_3 : Int).toNat ((wrap64 (x4_3 + 1)) : Int).toNat)).bind fun t182=>(r06_Kind.l0 k3 a0 t182 (wrap64 (x4_3 + 1)))) else (none)) else (none)) else (none)) = some r:=by first | (rw [hy179];with_reducible exact H) | (have H2_:=(Option.bind_some _ _).symm.trans H;rw [hy179];with_reducible exact H2_) | (have H2_:=(Option.bind_some _ _).symm.trans H;with_reducible exact H2_) | with_reducible exact H | (rw [hy179];exact H) | exact H
           have Ny179:=As.mk hy179
           clear hy179
           by_cases c14 : 0 ≤ x4_3
           ·rw [if_pos c14] at H
            have c14b0:=eq_true c14
            have c14b1 : decide (0 ≤ x4_3) = true:=decide_eq_true c14
            clear c14
            by_cases c15 : x4_3 ≤ (wrap64 (x4_3 + 1))
            ·rw [if_pos c15] at H
             have c15b0:=eq_true c15
             have c15b1 : decide (x4_3 ≤ (wrap64 (x4_3 + 1))) = true:=decide_eq_true c15
             by_cases c16 : (wrap64 (x4_3 + 1)) ≤ (a0.size : Int)
             ·rw [if_pos c16] at H
              have c16b0:=eq_true c16
              have c16b1 : decide ((wrap64 (x4_3 + 1)) ≤ (a0.size : Int)) = true:=decide_eq_true c16
              replace H:=Option.bind_eq_some_iff.mp H
              obtain ⟨t182,A170,H⟩:=H
              replace H : (r06_Kind.l0 k3 a0 t182 (wrap64 (x4_3 + 1))) = some r:=H
              have A17:=As.mk A170
              clear A170
              have H':=As.mk H
              clear H
              go_wp2_with (first | ((with_reducible refine gate_dst (N:=28) rfl ?_);(try (refine gate_guard (by rfl) ?_;dsimp only));refine Kd.R_lit Kd.string _ 9 ?hg (N:=28) ?hd (xs:=([(⟨#[43]⟩ : ByteArray),(⟨#[45]⟩ : ByteArray),(⟨#[42]⟩ : ByteArray),(⟨#[47]⟩ : ByteArray),(⟨#[60]⟩ : ByteArray),(⟨#[62]⟩ : ByteArray),(⟨#[61]⟩ : ByteArray),(⟨#[126]⟩ : ByteArray),(⟨#[38]⟩ : ByteArray),(⟨#[44]⟩ : ByteArray),(⟨#[64]⟩ : ByteArray),(⟨#[37]⟩ : ByteArray)] : List ByteArray)) (inner:=[.string (⟨#[43]⟩ : ByteArray),.string (⟨#[45]⟩ : ByteArray),.string (⟨#[42]⟩ : ByteArray),.string (⟨#[47]⟩ : ByteArray),.string (⟨#[60]⟩ : ByteArray),.string (⟨#[62]⟩ : ByteArray),.string (⟨#[61]⟩ : ByteArray),.string (⟨#[126]⟩ : ByteArray),.string (⟨#[38]⟩ : ByteArray),.string (⟨#[44]⟩ : ByteArray),.string (⟨#[64]⟩ : ByteArray),.string (⟨#[37]⟩ : ByteArray)]) (ok:=fun _=>True) (okp:=fun _=>True) ?hr ?hp (fun _ hk=>hk) trivial (Below.refl _ _) (Nat.le_refl _) (by simp) ?_;(case hd=>rfl);(case hg=>rfl);(case hr=>first | (go_simp;done) | (go_simp;rfl));(case hp=>exact (Reps.one (show Kd.M Kd.string _ _ _ (⟨#[43]⟩ : ByteArray) [.string (⟨#[43]⟩ : ByteArray)] from rfl) (Reps.one (show Kd.M Kd.string _ _ _ (⟨#[45]⟩ : ByteArray) [.string (⟨#[45]⟩ : ByteArray)] from rfl) (Reps.one (show Kd.M Kd.string _ _ _ (⟨#[42]⟩ : ByteArray) [.string (⟨#[42]⟩ : ByteArray)] from rfl) (Reps.one (show Kd.M Kd.string _ _ _ (⟨#[47]⟩ : ByteArray) [.string (⟨#[47]⟩ : ByteArray)] from rfl) (Reps.one (show Kd.M Kd.string _ _ _ (⟨#[60]⟩ : ByteArray) [.string (⟨#[60]⟩ : ByteArray)] from rfl) (Reps.one (show Kd.M Kd.string _ _ _ (⟨#[62]⟩ : ByteArray) [.string (⟨#[62]⟩ : ByteArray)] from rfl) (Reps.one (show Kd.M Kd.string _ _ _ (⟨#[61]⟩ : ByteArray) [.string (⟨#[61]⟩ : ByteArray)] from rfl) (Reps.one (show Kd.M Kd.string _ _ _ (⟨#[126]⟩ : ByteArray) [.string (⟨#[126]⟩ : ByteArray)] from rfl) (Reps.one (show Kd.M Kd.string _ _ _ (⟨#[38]⟩ : ByteArray) [.string (⟨#[38]⟩ : ByteArray)] from rfl) (Reps.one (show Kd.M Kd.string _ _ _ (⟨#[44]⟩ : ByteArray) [.string (⟨#[44]⟩ : ByteArray)] from rfl) (Reps.one (show Kd.M Kd.string _ _ _ (⟨#[64]⟩ : ByteArray) [.string (⟨#[64]⟩ : ByteArray)] from rfl) (Reps.one (show Kd.M Kd.string _ _ _ (⟨#[37]⟩ : ByteArray) [.string (⟨#[37]⟩ : ByteArray)] from rfl) (Reps.none _ _))))))))))))));intro v180 w18 ho19 hb hg_ hnew_;clear hg_ hnew_;(first | rw [← Ny179.out] at ho19 | (simp only [Int.reduceToNat] at ho19;rw [← Ny179.out] at ho19));have n0_:=As.mk (Kd.R_lower ho19 (bZ (by repeat (first | (with_reducible first | exact HB.out | apply bA | apply bN | apply bD) | exact HB.out))));have n1_:=As.mk (bS (by repeat (first | (with_reducible first | exact HB.out | apply bA | apply bN | apply bD) | exact HB.out)) hb);clear HB;have HO181:=n0_;have HB:=n1_;clear n0_ n1_;clear hb ho19;obtain ⟨Ao20,co20,eo20⟩:=Kd.R_slice HO181.out;subst eo20) | (go_at_call 68;(with_reducible refine (r06_In.calls k3 _ _ y179 (a0.extract (x4_3 : Int).toNat ((wrap64 (x4_3 + 1)) : Int).toNat) t182 _ ?side1 ?side2 A17.out).mono ?_);(case side1=>repeat (first | exact (Kd.R_reads' HO181.out).2.2 | (with_reducible refine Kd.C_alloc ?_ _) | (with_reducible refine Kd.C_drewN ?_ _) | (with_reducible refine Kd.C_drew ?_)));(case side2=>exact (Kd.R_reads' HO181.out).2.1);rintro e w' ⟨rfl,⟨nd,rfl⟩⟩))
              go_roundg k3
              case measure=>have:=HJ1.out;have:=HJ8.out;have:=HK3.out;omega
              case rel=>exact ⟨(t182),(wrap64 (x4_3 + 1)),(by first | rfl | (simp;done) | (simp [*];done)),(by first | rfl | (simp;done) | (simp [*];done)),H',⟨by have:=HJ1.out;have:=HJ8.out;have:=HK3.out;omega⟩,⟨by repeat (first | (with_reducible first | exact HB.out | apply bA | apply bN | apply bD) | exact HB.out)⟩⟩
             ·rw [if_neg c16] at H
              exact absurd H (by simp)
            ·rw [if_neg c15] at H
             exact absurd H (by simp)
           ·rw [if_neg c14] at H
            exact absurd H (by simp)
          ·replace c13:=Bool.eq_false_iff.mpr c13
           subst c13
           have H1 : (r06_Kind.l0 k3 a0 false (wrap64 (x4_3 + 1))) = some r:=by rw [if_neg (show ¬ (false = true) by decide)] at H;exact H
           clear H
           have H:=H1
           clear H1
           have H':=As.mk H
           clear H
           go_wp2
           go_roundg k3
           case measure=>have:=HJ1.out;have:=HJ8.out;have:=HK3.out;omega
           case rel=>exact ⟨(false),(wrap64 (x4_3 + 1)),(by first | rfl | (simp;done) | (simp [*];done)),(by first | rfl | (simp;done) | (simp [*];done)),H',⟨by have:=HJ1.out;have:=HJ8.out;have:=HK3.out;omega⟩,⟨by repeat (first | (with_reducible first | exact HB.out | apply bA | apply bN | apply bD) | exact HB.out)⟩⟩
         ·rw [if_neg c12] at H
          have c12b0 : decide (x4_3 < (a0.size : Int)) = false:=decide_eq_false c12
          clear c12
          by_cases c21 : x3_3 = true
          ·subst c21
           have H1 : (some 2) = some r:=by rw [if_pos rfl] at H;exact H
           clear H
           have H:=H1
           clear H1
           obtain rfl:=Option.some.inj H
           go_wp2
           go_ret
           exact ⟨by first | rfl | (simp [eN,eS] <;> rfl) | (simp [*,eN,eS] <;> rfl),by repeat (first | (with_reducible first | exact HB.out | apply bA | apply bN | apply bD) | exact HB.out)⟩
          ·replace c21:=Bool.eq_false_iff.mpr c21
           subst c21
           have H1 : ((r06_Keywords.f k3 a0).bind fun t183=>(if (t183.length : Int) > 0 then (some 3) else (some 0))) = some r:=by rw [if_neg (show ¬ (false = true) by decide)] at H;exact H
           clear H
           have H:=H1
           clear H1
           replace H:=Option.bind_eq_some_iff.mp H
           obtain ⟨t183,A220,H⟩:=H
           replace H : (if (t183.length : Int) > 0 then (some 3) else (some 0)) = some r:=H
           have A22:=As.mk A220
           clear A220
           by_cases c23 : (t183.length : Int) > 0
           ·rw [if_pos c23] at H
            have c23b0 : decide (0 < (t183.length : Int)) = true:=decide_eq_true c23
            have c23b1 : decide (0 < t183.length) = true:=decide_eq_true (by omega)
            clear c23
            obtain rfl:=Option.some.inj H
            go_wp2_with (first | ((with_reducible refine gC (f:=109) rfl ?_);refine goesL_ (some 38) rfl rfl Tryz.func109 (by kernel_rfl) rfl #[.string a0] rfl (by (try simp only [List.map_toArray,List.map_cons,List.map_nil]);first | done | rfl | (simp only [List.length_drop,List.length_take];rfl)) ?_;(with_reducible refine (r06_Keywords.calls k3 a0 t183 _ A22.out).mono ?_);rintro e w24 ⟨v184,rfl,ho0,hb⟩;refine ⟨_,rfl,?_⟩;have n0_:=As.mk (Kd.R_lower ho0 (bZ (by repeat (first | (with_reducible first | exact HB.out | apply bA | apply bN | apply bD) | exact HB.out))));have n1_:=As.mk (bS (by repeat (first | (with_reducible first | exact HB.out | apply bA | apply bN | apply bD) | exact HB.out)) hb);clear HB;have HO185:=n0_;have HB:=n1_;clear n0_ n1_;(try clear hb);(try clear hb2);(try clear hk);(try clear hi);(try clear ho0);obtain ⟨Ao25,co25,eo25⟩:=Kd.R_slice HO185.out;subst eo25))
            go_ret
            exact ⟨by first | rfl | (simp [eN,eS] <;> rfl) | (simp [*,eN,eS] <;> rfl),by repeat (first | (with_reducible first | exact HB.out | apply bA | apply bN | apply bD) | exact HB.out)⟩
           ·rw [if_neg c23] at H
            have c23b0 : decide (0 < (t183.length : Int)) = false:=decide_eq_false c23
            have c23b1 : decide (0 < t183.length) = false:=decide_eq_false (by omega)
            clear c23
            obtain rfl:=Option.some.inj H
            go_wp2_with (first | ((with_reducible refine gC (f:=109) rfl ?_);refine goesL_ (some 38) rfl rfl Tryz.func109 (by kernel_rfl) rfl #[.string a0] rfl (by (try simp only [List.map_toArray,List.map_cons,List.map_nil]);first | done | rfl | (simp only [List.length_drop,List.length_take];rfl)) ?_;(with_reducible refine (r06_Keywords.calls k3 a0 t183 _ A22.out).mono ?_);rintro e w26 ⟨v184,rfl,ho0,hb⟩;refine ⟨_,rfl,?_⟩;have n0_:=As.mk (Kd.R_lower ho0 (bZ (by repeat (first | (with_reducible first | exact HB.out | apply bA | apply bN | apply bD) | exact HB.out))));have n1_:=As.mk (bS (by repeat (first | (with_reducible first | exact HB.out | apply bA | apply bN | apply bD) | exact HB.out)) hb);clear HB;have HO185:=n0_;have HB:=n1_;clear n0_ n1_;(try clear hb);(try clear hb2);(try clear hk);(try clear hi);(try clear ho0);obtain ⟨Ao27,co27,eo27⟩:=Kd.R_slice HO185.out;subst eo27))
            go_ret
            exact ⟨by first | rfl | (simp [eN,eS] <;> rfl) | (simp [*,eN,eS] <;> rfl),by repeat (first | (with_reducible first | exact HB.out | apply bA | apply bN | apply bD) | exact HB.out)⟩
      ·replace c11:=Bool.eq_false_iff.mpr c11
       subst c11
       have H1 : ((r06_Keywords.f kj8 a0).bind fun t186=>(if (t186.length : Int) > 0 then (some 3) else (some 0))) = some r:=by rw [if_neg (show ¬ (false = true) by decide)] at H;exact H
       clear H
       have H:=H1
       clear H1
       replace H:=Option.bind_eq_some_iff.mp H
       obtain ⟨t186,A280,H⟩:=H
       replace H : (if (t186.length : Int) > 0 then (some 3) else (some 0)) = some r:=H
       have A28:=As.mk A280
       clear A280
       by_cases c29 : (t186.length : Int) > 0
       ·rw [if_pos c29] at H
        have c29b0 : decide (0 < (t186.length : Int)) = true:=decide_eq_true c29
        have c29b1 : decide (0 < t186.length) = true:=decide_eq_true (by omega)
        clear c29
        obtain rfl:=Option.some.inj H
        go_wp2_with (first | ((with_reducible refine gC (f:=109) rfl ?_);refine goesL_ (some 38) rfl rfl Tryz.func109 (by kernel_rfl) rfl #[.string a0] rfl (by (try simp only [List.map_toArray,List.map_cons,List.map_nil]);first | done | rfl | (simp only [List.length_drop,List.length_take];rfl)) ?_;(with_reducible refine (r06_Keywords.calls kj8 a0 t186 _ A28.out).mono ?_);rintro e w30 ⟨v187,rfl,ho0,hb⟩;refine ⟨_,rfl,?_⟩;have n0_:=As.mk (Kd.R_lower ho0 (bZ (by repeat (first | (with_reducible first | exact HB.out | apply bA | apply bN | apply bD) | exact HB.out))));have n1_:=As.mk (bS (by repeat (first | (with_reducible first | exact HB.out | apply bA | apply bN | apply bD) | exact HB.out)) hb);clear HB;have HO188:=n0_;have HB:=n1_;clear n0_ n1_;(try clear hb);(try clear hb2);(try clear hk);(try clear hi);(try clear ho0);obtain ⟨Ao31,co31,eo31⟩:=Kd.R_slice HO188.out;subst eo31))
        go_ret
        exact ⟨by first | rfl | (simp [eN,eS] <;> rfl) | (simp [*,eN,eS] <;> rfl),by repeat (first | (with_reducible first | exact HB.out | apply bA | apply bN | apply bD) | exact HB.out)⟩
       ·rw [if_neg c29] at H
        have c29b0 : decide (0 < (t186.length : Int)) = false:=decide_eq_false c29
        have c29b1 : decide (0 < t186.length) = false:=decide_eq_false (by omega)
        clear c29
        obtain rfl:=Option.some.inj H
        go_wp2_with (first | ((with_reducible refine gC (f:=109) rfl ?_);refine goesL_ (some 38) rfl rfl Tryz.func109 (by kernel_rfl) rfl #[.string a0] rfl (by (try simp only [List.map_toArray,List.map_cons,List.map_nil]);first | done | rfl | (simp only [List.length_drop,List.length_take];rfl)) ?_;(with_reducible refine (r06_Keywords.calls kj8 a0 t186 _ A28.out).mono ?_);rintro e w32 ⟨v187,rfl,ho0,hb⟩;refine ⟨_,rfl,?_⟩;have n0_:=As.mk (Kd.R_lower ho0 (bZ (by repeat (first | (with_reducible first | exact HB.out | apply bA | apply bN | apply bD) | exact HB.out))));have n1_:=As.mk (bS (by repeat (first | (with_reducible first | exact HB.out | apply bA | apply bN | apply bD) | exact HB.out)) hb);clear HB;have HO188:=n0_;have HB:=n1_;clear n0_ n1_;(try clear hb);(try clear hb2);(try clear hk);(try clear hi);(try clear ho0);obtain ⟨Ao33,co33,eo33⟩:=Kd.R_slice HO188.out;subst eo33))
        go_ret
        exact ⟨by first | rfl | (simp [eN,eS] <;> rfl) | (simp [*,eN,eS] <;> rfl),by repeat (first | (with_reducible first | exact HB.out | apply bA | apply bN | apply bD) | exact HB.out)⟩
end Go.Proofs.YtmlebgikdegjjaaGreatDoor.PAll
