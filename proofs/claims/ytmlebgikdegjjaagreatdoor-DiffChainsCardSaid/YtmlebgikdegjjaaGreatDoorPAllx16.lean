import Derived.Test.YtmlebgikdegjjaaGreatDoorPAllx0
import Derived.Test.YtmlebgikdegjjaaGreatDoorPAllx1
import Derived.Test.YtmlebgikdegjjaaGreatDoorPAllx2
set_option maxHeartbeats 8000000
set_option maxRecDepth 100000
namespace Go.Proofs.YtmlebgikdegjjaaGreatDoor.PAll
open Go.RowKit Go.Proofs.YtmlebgikdegjjaaGreatDoorW.PrintWords Go.Proofs.YtmlebgikdegjjaaGreatDoorW.PrintLast Go.Proofs.YtmlebgikdegjjaaGreatDoorW.PrintMore
attribute [local go_sem] max2_int min2_int max_two min_two max_three min_three max_four min_four   -- for this text's walks alone
set_option linter.unusedVariables false
set_option linter.unusedSimpArgs false
/-! ### strings_Cut: function 111 -/
def strings_Cut.f (a0 a1 : ByteArray) : Option (ByteArray × ByteArray × Bool):=if a0.size < 4294967281 then some ((⟨(Lib.cut a0.data.toList a1.data.toList).1.toArray⟩ : ByteArray),(⟨(Lib.cut a0.data.toList a1.data.toList).2.1.toArray⟩ : ByteArray),(Lib.cut a0.data.toList a1.data.toList).2.2) else none
theorem strings_Cut.calls (a0 : ByteArray) (a1 : ByteArray) (r1 : ByteArray) (r2 : ByteArray) (r3 : Bool) (w : World) (h : strings_Cut.f a0 a1 = some (r1,r2,r3)) (hmx : Nm.MaxOk w) :
  Calls Tryz.prog 111 #[.string a0,.string a1] w fun e w'=>e = .returned (.tuple #[.string r1,.string r2,.bool r3]) ∧ Drawn0 w w':=by
 unfold strings_Cut.f at h
 obtain ⟨m,hm⟩:=hmx
 by_cases hs : a0.size < 4294967281
 ·rw [if_pos hs] at h
  have h1:=Option.some.inj h
  rw [Prod.mk.injEq,Prod.mk.injEq] at h1
  obtain ⟨rfl,rfl,rfl⟩:=h1
  exact (Tryz.strings_Cut a0 a1 m w hs hm).mono fun e w' ⟨he,hw⟩=>⟨he,⟨hw⟩⟩
 ·rw [if_neg hs] at h
  cases h
/-! ### def_Split: function 72 -/
def def_Split.f (k : Nat) (a0 : ByteArray) : Option (ByteArray × ByteArray × Bool):=(strings_Cut.f a0 (⟨#[62,62]⟩ : ByteArray)).bind fun bt383=>((name_Class.f bt383.1).bind fun t386=>(if t386 = true then (if bt383.2.2 = true then ((name_Kind.f bt383.2.1).bind fun t387=>(if t387 = 0 then (some ((⟨#[]⟩ : ByteArray),(⟨#[]⟩ : ByteArray),false)) else (some (bt383.1,bt383.2.1,true)))) else ((name_Always.f k bt383.1).bind fun t388=>(if t388 = true then (some ((⟨#[]⟩ : ByteArray),(⟨#[]⟩ : ByteArray),false)) else (some (bt383.1,bt383.2.1,true))))) else (some ((⟨#[]⟩ : ByteArray),(⟨#[]⟩ : ByteArray),false))))
theorem def_Split.mono : ∀ a0 k,LeO (def_Split.f k a0) (def_Split.f (k + 1) a0):=by
 intro a0 k
 unfold def_Split.f
 repeat' first
   | (with_reducible exact name_Always.mono _ _)
   | (with_reducible exact LeO.refl _)
   | (with_reducible exact LeO.none _)
   | (with_reducible refine LeO.ite ?_ ?_)
   | (with_reducible refine LeO.bind ?_ (fun _=>?_))
   | exact name_Always.mono _ _
   | exact LeO.none _
   | refine LeO.ite ?_ ?_
   | refine LeO.bind ?_ (fun _=>?_)
theorem def_Split.calls (k : Nat) (a0 : ByteArray) (r1 : ByteArray) (r2 : ByteArray) (r3 : Bool) (w : World) (h : def_Split.f k a0 = some (r1,r2,r3)) (hmx : Nm.MaxOk w) :
  Calls Tryz.prog 72 #[.string a0] w fun e w'=>e = .returned (.tuple #[.string r1,.string r2,.bool r3]) ∧ Below w.heap.size w w':=by
 have HMX:=As.mk hmx
 clear hmx
 have HB:=As.mk (Below.refl w.heap.size w)
 have H : ((strings_Cut.f a0 (⟨#[62,62]⟩ : ByteArray)).bind fun bt383=>((name_Class.f bt383.1).bind fun t386=>(if t386 = true then (if bt383.2.2 = true then ((name_Kind.f bt383.2.1).bind fun t387=>(if t387 = 0 then (some ((⟨#[]⟩ : ByteArray),(⟨#[]⟩ : ByteArray),false)) else (some (bt383.1,bt383.2.1,true)))) else ((name_Always.f k bt383.1).bind fun t388=>(if t388 = true then (some ((⟨#[]⟩ : ByteArray),(⟨#[]⟩ : ByteArray),false)) else (some (bt383.1,bt383.2.1,true))))) else (some ((⟨#[]⟩ : ByteArray),(⟨#[]⟩ : ByteArray),false))))) = some (r1,r2,r3):=h
 clear h
 replace H:=Option.bind_eq_some_iff.mp H
 obtain ⟨⟨t383,t384,t385⟩,A20,H⟩:=H
 replace H : ((name_Class.f t383).bind fun t386=>(if t386 = true then (if t385 = true then ((name_Kind.f t384).bind fun t387=>(if t387 = 0 then (some ((⟨#[]⟩ : ByteArray),(⟨#[]⟩ : ByteArray),false)) else (some (t383,t384,true)))) else ((name_Always.f k t383).bind fun t388=>(if t388 = true then (some ((⟨#[]⟩ : ByteArray),(⟨#[]⟩ : ByteArray),false)) else (some (t383,t384,true))))) else (some ((⟨#[]⟩ : ByteArray),(⟨#[]⟩ : ByteArray),false)))) = some (r1,r2,r3):=H
 have A2:=As.mk A20
 clear A20
 replace H:=Option.bind_eq_some_iff.mp H
 obtain ⟨t386,A30,H⟩:=H
 replace H : (if t386 = true then (if t385 = true then ((name_Kind.f t384).bind fun t387=>(if t387 = 0 then (some ((⟨#[]⟩ : ByteArray),(⟨#[]⟩ : ByteArray),false)) else (some (t383,t384,true)))) else ((name_Always.f k t383).bind fun t388=>(if t388 = true then (some ((⟨#[]⟩ : ByteArray),(⟨#[]⟩ : ByteArray),false)) else (some (t383,t384,true))))) else (some ((⟨#[]⟩ : ByteArray),(⟨#[]⟩ : ByteArray),false))) = some (r1,r2,r3):=H
 have A3:=As.mk A30
 clear A30
 by_cases c4 : t386 = true
 ·subst c4
  have H1 : (if t385 = true then ((name_Kind.f t384).bind fun t387=>(if t387 = 0 then (some ((⟨#[]⟩ : ByteArray),(⟨#[]⟩ : ByteArray),false)) else (some (t383,t384,true)))) else ((name_Always.f k t383).bind fun t388=>(if t388 = true then (some ((⟨#[]⟩ : ByteArray),(⟨#[]⟩ : ByteArray),false)) else (some (t383,t384,true))))) = some (r1,r2,r3):=by rw [if_pos rfl] at H;exact H
  clear H
  have H:=H1
  clear H1
  by_cases c5 : t385 = true
  ·subst c5
   have H1 : ((name_Kind.f t384).bind fun t387=>(if t387 = 0 then (some ((⟨#[]⟩ : ByteArray),(⟨#[]⟩ : ByteArray),false)) else (some (t383,t384,true)))) = some (r1,r2,r3):=by rw [if_pos rfl] at H;exact H
   clear H
   have H:=H1
   clear H1
   replace H:=Option.bind_eq_some_iff.mp H
   obtain ⟨t387,A60,H⟩:=H
   replace H : (if t387 = 0 then (some ((⟨#[]⟩ : ByteArray),(⟨#[]⟩ : ByteArray),false)) else (some (t383,t384,true))) = some (r1,r2,r3):=H
   have A6:=As.mk A60
   clear A60
   by_cases c7 : t387 = 0
   ·rw [if_pos c7] at H
    have c7b0 : (t387 == 0) = true:=beq_iff_eq.mpr c7
    have c7b1 : (t387 != 0) = false:=bne_eq_false_iff_eq.mpr c7
    clear c7
    simp only [Option.some.injEq,Prod.mk.injEq] at H
    obtain ⟨rfl,rfl,rfl⟩:=H
    go_enter Tryz.func72,Tryz.ntmps72
    go_wp2_with (first | ((with_reducible refine gC (f:=111) rfl ?_);refine goesL_ (some 10) rfl rfl Tryz.func111 (by kernel_rfl) rfl #[.string a0,.string (⟨#[62,62]⟩ : ByteArray)] rfl (by (try simp only [List.map_toArray,List.map_cons,List.map_nil]);first | done | rfl | (simp only [List.length_drop,List.length_take];rfl)) ?_;(with_reducible refine (strings_Cut.calls a0 (⟨#[62,62]⟩ : ByteArray) t383 t384 true _ A2.out ?mx1).mono ?_);(case mx1=>first | exact HMX.out | exact Nm.MaxOk.below HMX.out (by repeat (first | (with_reducible first | exact HB.out | apply bA | apply bN | apply bD) | exact HB.out)) | exact Nm.MaxOk.drewN HMX.out _);rintro e w' ⟨rfl,⟨nd,rfl⟩⟩;refine ⟨_,rfl,?_⟩) | ((with_reducible refine gC (f:=112) rfl ?_);refine goesL_ (some 15) rfl rfl Tryz.func112 (by kernel_rfl) rfl #[.string t383] rfl (by (try simp only [List.map_toArray,List.map_cons,List.map_nil]);first | done | rfl | (simp only [List.length_drop,List.length_take];rfl)) ?_;(with_reducible refine (name_Class.calls t383 true _ A3.out).mono ?_);rintro e w8 ⟨rfl,hb⟩;refine ⟨_,rfl,?_⟩;have n0_:=As.mk (bS (by repeat (first | (with_reducible first | exact HB.out | apply bA | apply bN | apply bD) | exact HB.out)) hb);clear HB;have HB:=n0_;clear n0_;(try clear hb);(try clear hb2);(try clear hk);(try clear hi)) | (go_at_call 113;(with_reducible refine (name_Kind.calls t384 t387 _ A6.out).mono ?_);rintro e w9 ⟨rfl,hb⟩;have n0_:=As.mk (bS (by repeat (first | (with_reducible first | exact HB.out | apply bA | apply bN | apply bD) | exact HB.out)) hb);clear HB;have HB:=n0_;clear n0_;(try clear hb);(try clear hb2);(try clear hk);(try clear hi)))
    go_ret3
    exact ⟨by first | rfl | (simp [eN,eS] <;> rfl) | (simp [*,eN,eS] <;> rfl),by repeat (first | (with_reducible first | exact HB.out | apply bA | apply bN | apply bD) | exact HB.out)⟩
   ·rw [if_neg c7] at H
    have c7b0 : (t387 == 0) = false:=beq_eq_false_iff_ne.mpr c7
    have c7b1 : (t387 != 0) = true:=bne_iff_ne.mpr c7
    simp only [Option.some.injEq,Prod.mk.injEq] at H
    obtain ⟨rfl,rfl,rfl⟩:=H
    go_enter Tryz.func72,Tryz.ntmps72
    go_wp2_with (first | ((with_reducible refine gC (f:=111) rfl ?_);refine goesL_ (some 10) rfl rfl Tryz.func111 (by kernel_rfl) rfl #[.string a0,.string (⟨#[62,62]⟩ : ByteArray)] rfl (by (try simp only [List.map_toArray,List.map_cons,List.map_nil]);first | done | rfl | (simp only [List.length_drop,List.length_take];rfl)) ?_;(with_reducible refine (strings_Cut.calls a0 (⟨#[62,62]⟩ : ByteArray) t383 t384 true _ A2.out ?mx2).mono ?_);(case mx2=>first | exact HMX.out | exact Nm.MaxOk.below HMX.out (by repeat (first | (with_reducible first | exact HB.out | apply bA | apply bN | apply bD) | exact HB.out)) | exact Nm.MaxOk.drewN HMX.out _);rintro e w' ⟨rfl,⟨nd,rfl⟩⟩;refine ⟨_,rfl,?_⟩) | ((with_reducible refine gC (f:=112) rfl ?_);refine goesL_ (some 15) rfl rfl Tryz.func112 (by kernel_rfl) rfl #[.string t383] rfl (by (try simp only [List.map_toArray,List.map_cons,List.map_nil]);first | done | rfl | (simp only [List.length_drop,List.length_take];rfl)) ?_;(with_reducible refine (name_Class.calls t383 true _ A3.out).mono ?_);rintro e w10 ⟨rfl,hb⟩;refine ⟨_,rfl,?_⟩;have n0_:=As.mk (bS (by repeat (first | (with_reducible first | exact HB.out | apply bA | apply bN | apply bD) | exact HB.out)) hb);clear HB;have HB:=n0_;clear n0_;(try clear hb);(try clear hb2);(try clear hk);(try clear hi)) | (go_at_call 113;(with_reducible refine (name_Kind.calls t384 t387 _ A6.out).mono ?_);rintro e w11 ⟨rfl,hb⟩;have n0_:=As.mk (bS (by repeat (first | (with_reducible first | exact HB.out | apply bA | apply bN | apply bD) | exact HB.out)) hb);clear HB;have HB:=n0_;clear n0_;(try clear hb);(try clear hb2);(try clear hk);(try clear hi)))
    go_ret3
    exact ⟨by first | rfl | (simp [eN,eS] <;> rfl) | (simp [*,eN,eS] <;> rfl),by repeat (first | (with_reducible first | exact HB.out | apply bA | apply bN | apply bD) | exact HB.out)⟩
  ·replace c5:=Bool.eq_false_iff.mpr c5
   subst c5
   have H1 : ((name_Always.f k t383).bind fun t388=>(if t388 = true then (some ((⟨#[]⟩ : ByteArray),(⟨#[]⟩ : ByteArray),false)) else (some (t383,t384,true)))) = some (r1,r2,r3):=by rw [if_neg (show ¬ (false = true) by decide)] at H;exact H
   clear H
   have H:=H1
   clear H1
   replace H:=Option.bind_eq_some_iff.mp H
   obtain ⟨t388,A120,H⟩:=H
   replace H : (if t388 = true then (some ((⟨#[]⟩ : ByteArray),(⟨#[]⟩ : ByteArray),false)) else (some (t383,t384,true))) = some (r1,r2,r3):=H
   have A12:=As.mk A120
   clear A120
   by_cases c13 : t388 = true
   ·subst c13
    have H1 : (some ((⟨#[]⟩ : ByteArray),(⟨#[]⟩ : ByteArray),false)) = some (r1,r2,r3):=by rw [if_pos rfl] at H;exact H
    clear H
    have H:=H1
    clear H1
    simp only [Option.some.injEq,Prod.mk.injEq] at H
    obtain ⟨rfl,rfl,rfl⟩:=H
    go_enter Tryz.func72,Tryz.ntmps72
    go_wp2_with (first | ((with_reducible refine gC (f:=111) rfl ?_);refine goesL_ (some 10) rfl rfl Tryz.func111 (by kernel_rfl) rfl #[.string a0,.string (⟨#[62,62]⟩ : ByteArray)] rfl (by (try simp only [List.map_toArray,List.map_cons,List.map_nil]);first | done | rfl | (simp only [List.length_drop,List.length_take];rfl)) ?_;(with_reducible refine (strings_Cut.calls a0 (⟨#[62,62]⟩ : ByteArray) t383 t384 false _ A2.out ?mx3).mono ?_);(case mx3=>first | exact HMX.out | exact Nm.MaxOk.below HMX.out (by repeat (first | (with_reducible first | exact HB.out | apply bA | apply bN | apply bD) | exact HB.out)) | exact Nm.MaxOk.drewN HMX.out _);rintro e w' ⟨rfl,⟨nd,rfl⟩⟩;refine ⟨_,rfl,?_⟩) | ((with_reducible refine gC (f:=112) rfl ?_);refine goesL_ (some 15) rfl rfl Tryz.func112 (by kernel_rfl) rfl #[.string t383] rfl (by (try simp only [List.map_toArray,List.map_cons,List.map_nil]);first | done | rfl | (simp only [List.length_drop,List.length_take];rfl)) ?_;(with_reducible refine (name_Class.calls t383 true _ A3.out).mono ?_);rintro e w14 ⟨rfl,hb⟩;refine ⟨_,rfl,?_⟩;have n0_:=As.mk (bS (by repeat (first | (with_reducible first | exact HB.out | apply bA | apply bN | apply bD) | exact HB.out)) hb);clear HB;have HB:=n0_;clear n0_;(try clear hb);(try clear hb2);(try clear hk);(try clear hi)) | (go_at_call 114;(with_reducible refine (name_Always.calls k t383 true _ A12.out).mono ?_);rintro e w15 ⟨rfl,hb⟩;have n0_:=As.mk (bS (by repeat (first | (with_reducible first | exact HB.out | apply bA | apply bN | apply bD) | exact HB.out)) hb);clear HB;have HB:=n0_;clear n0_;(try clear hb);(try clear hb2);(try clear hk);(try clear hi)))
    go_ret3
    exact ⟨by first | rfl | (simp [eN,eS] <;> rfl) | (simp [*,eN,eS] <;> rfl),by repeat (first | (with_reducible first | exact HB.out | apply bA | apply bN | apply bD) | exact HB.out)⟩
   ·replace c13:=Bool.eq_false_iff.mpr c13
    subst c13
    have H1 : (some (t383,t384,true)) = some (r1,r2,r3):=by rw [if_neg (show ¬ (false = true) by decide)] at H;exact H
    clear H
    have H:=H1
    clear H1
    simp only [Option.some.injEq,Prod.mk.injEq] at H
    obtain ⟨rfl,rfl,rfl⟩:=H
    go_enter Tryz.func72,Tryz.ntmps72
    go_wp2_with (first | ((with_reducible refine gC (f:=111) rfl ?_);refine goesL_ (some 10) rfl rfl Tryz.func111 (by kernel_rfl) rfl #[.string a0,.string (⟨#[62,62]⟩ : ByteArray)] rfl (by (try simp only [List.map_toArray,List.map_cons,List.map_nil]);first | done | rfl | (simp only [List.length_drop,List.length_take];rfl)) ?_;(with_reducible refine (strings_Cut.calls a0 (⟨#[62,62]⟩ : ByteArray) t383 t384 false _ A2.out ?mx4).mono ?_);(case mx4=>first | exact HMX.out | exact Nm.MaxOk.below HMX.out (by repeat (first | (with_reducible first | exact HB.out | apply bA | apply bN | apply bD) | exact HB.out)) | exact Nm.MaxOk.drewN HMX.out _);rintro e w' ⟨rfl,⟨nd,rfl⟩⟩;refine ⟨_,rfl,?_⟩) | ((with_reducible refine gC (f:=112) rfl ?_);refine goesL_ (some 15) rfl rfl Tryz.func112 (by kernel_rfl) rfl #[.string t383] rfl (by (try simp only [List.map_toArray,List.map_cons,List.map_nil]);first | done | rfl | (simp only [List.length_drop,List.length_take];rfl)) ?_;(with_reducible refine (name_Class.calls t383 true _ A3.out).mono ?_);rintro e w16 ⟨rfl,hb⟩;refine ⟨_,rfl,?_⟩;have n0_:=As.mk (bS (by repeat (first | (with_reducible first | exact HB.out | apply bA | apply bN | apply bD) | exact HB.out)) hb);clear HB;have HB:=n0_;clear n0_;(try clear hb);(try clear hb2);(try clear hk);(try clear hi)) | (go_at_call 114;(with_reducible refine (name_Always.calls k t383 false _ A12.out).mono ?_);rintro e w17 ⟨rfl,hb⟩;have n0_:=As.mk (bS (by repeat (first | (with_reducible first | exact HB.out | apply bA | apply bN | apply bD) | exact HB.out)) hb);clear HB;have HB:=n0_;clear n0_;(try clear hb);(try clear hb2);(try clear hk);(try clear hi)))
    go_ret3
    exact ⟨by first | rfl | (simp [eN,eS] <;> rfl) | (simp [*,eN,eS] <;> rfl),by repeat (first | (with_reducible first | exact HB.out | apply bA | apply bN | apply bD) | exact HB.out)⟩
 ·replace c4:=Bool.eq_false_iff.mpr c4
  subst c4
  have H1 : (some ((⟨#[]⟩ : ByteArray),(⟨#[]⟩ : ByteArray),false)) = some (r1,r2,r3):=by rw [if_neg (show ¬ (false = true) by decide)] at H;exact H
  clear H
  have H:=H1
  clear H1
  simp only [Option.some.injEq,Prod.mk.injEq] at H
  obtain ⟨rfl,rfl,rfl⟩:=H
  go_enter Tryz.func72,Tryz.ntmps72
  go_wp2_with (first | ((with_reducible refine gC (f:=111) rfl ?_);refine goesL_ (some 10) rfl rfl Tryz.func111 (by kernel_rfl) rfl #[.string a0,.string (⟨#[62,62]⟩ : ByteArray)] rfl (by (try simp only [List.map_toArray,List.map_cons,List.map_nil]);first | done | rfl | (simp only [List.length_drop,List.length_take];rfl)) ?_;(with_reducible refine (strings_Cut.calls a0 (⟨#[62,62]⟩ : ByteArray) t383 t384 t385 _ A2.out ?mx5).mono ?_);(case mx5=>first | exact HMX.out | exact Nm.MaxOk.below HMX.out (by repeat (first | (with_reducible first | exact HB.out | apply bA | apply bN | apply bD) | exact HB.out)) | exact Nm.MaxOk.drewN HMX.out _);rintro e w' ⟨rfl,⟨nd,rfl⟩⟩;refine ⟨_,rfl,?_⟩) | ((with_reducible refine gC (f:=112) rfl ?_);refine goesL_ (some 15) rfl rfl Tryz.func112 (by kernel_rfl) rfl #[.string t383] rfl (by (try simp only [List.map_toArray,List.map_cons,List.map_nil]);first | done | rfl | (simp only [List.length_drop,List.length_take];rfl)) ?_;(with_reducible refine (name_Class.calls t383 false _ A3.out).mono ?_);rintro e w18 ⟨rfl,hb⟩;refine ⟨_,rfl,?_⟩;have n0_:=As.mk (bS (by repeat (first | (with_reducible first | exact HB.out | apply bA | apply bN | apply bD) | exact HB.out)) hb);clear HB;have HB:=n0_;clear n0_;(try clear hb);(try clear hb2);(try clear hk);(try clear hi)))
  go_ret3
  exact ⟨by first | rfl | (simp [eN,eS] <;> rfl) | (simp [*,eN,eS] <;> rfl),by repeat (first | (with_reducible first | exact HB.out | apply bA | apply bN | apply bD) | exact HB.out)⟩
/-! ### diff_side: function 73 -/
def diff_side.f (k : Nat) (l0 : List (S34)) (a1 : ByteArray) : Option (Bool):=if (l0.length : Int) = 0 then (some true) else (if (l0.length : Int) = 1 then (if 0 < (l0.length : Int) then ((def_Key.f k ((rd_T34 l0 0).f0) ((rd_T34 l0 0).f1) ((rd_T34 l0 0).f2) ((rd_T34 l0 0).f3) ((rd_T34 l0 0).f4) ((rd_T34 l0 0).f5)).bind fun t390=>(some (t390.toList == a1.toList))) else (none)) else (some false))
theorem diff_side.mono : ∀ a0 a1 k,LeO (diff_side.f k a0 a1) (diff_side.f (k + 1) a0 a1):=by
 intro a0 a1 k
 unfold diff_side.f
 repeat' first
   | (with_reducible exact def_Key.mono _ _ _ _ _ _ _)
   | (with_reducible exact LeO.refl _)
   | (with_reducible exact LeO.none _)
   | (with_reducible refine LeO.ite ?_ ?_)
   | (with_reducible refine LeO.bind ?_ (fun _=>?_))
   | exact def_Key.mono _ _ _ _ _ _ _
   | exact LeO.none _
   | refine LeO.ite ?_ ?_
   | refine LeO.bind ?_ (fun _=>?_)
theorem diff_side.calls (k : Nat) (A0 : Option Addr) (c0 : Nat) (l0 : List (S34)) (a1 : ByteArray) (r : Bool) (w : World) (hr0 : Kd.C k34 w A0 l0.length l0) (hc0 : l0.length ≤ c0) (h : diff_side.f k l0 a1 = some r) :
  Calls Tryz.prog 73 #[.slice A0 l0.length c0,.string a1] w fun e w'=>e = .returned (.bool r) ∧ Below w.heap.size w w':=by
 have hu34:=Tryz.underlying34
 have HR0:=As.mk hr0
 have HC0:=As.mk hc0
 clear hr0 hc0
 have HB:=As.mk (Below.refl w.heap.size w)
 have H : (if (l0.length : Int) = 0 then (some true) else (if (l0.length : Int) = 1 then (if 0 < (l0.length : Int) then ((def_Key.f k ((rd_T34 l0 0).f0) ((rd_T34 l0 0).f1) ((rd_T34 l0 0).f2) ((rd_T34 l0 0).f3) ((rd_T34 l0 0).f4) ((rd_T34 l0 0).f5)).bind fun t390=>(some (t390.toList == a1.toList))) else (none)) else (some false))) = some r:=h
 clear h
 by_cases c3 : (l0.length : Int) = 0
 ·rw [if_pos c3] at H
  have c3b0 : ((l0.length : Int) == 0) = true:=beq_iff_eq.mpr c3
  have c3b1 : ((l0.length : Int) != 0) = false:=bne_eq_false_iff_eq.mpr c3
  clear c3
  obtain rfl:=Option.some.inj H
  go_enter Tryz.func73,Tryz.ntmps73
  go_wp2
  go_ret
  exact ⟨by first | rfl | (simp [eN,eS] <;> rfl) | (simp [*,eN,eS] <;> rfl),by repeat (first | (with_reducible first | exact HB.out | apply bA | apply bN | apply bD) | exact HB.out)⟩
 ·rw [if_neg c3] at H
  have c3b0 : ((l0.length : Int) == 0) = false:=beq_eq_false_iff_ne.mpr c3
  have c3b1 : ((l0.length : Int) != 0) = true:=bne_iff_ne.mpr c3
  have c3b2 : ¬ (l0 = []):=fun h_=>c3 (by rw [h_];rfl)
  by_cases c4 : (l0.length : Int) = 1
  ·rw [if_pos c4] at H
   have c4b0 : ((l0.length : Int) == 1) = true:=beq_iff_eq.mpr c4
   have c4b1 : ((l0.length : Int) != 1) = false:=bne_eq_false_iff_eq.mpr c4
   clear c4
   by_cases c5 : 0 < (l0.length : Int)
   ·rw [if_pos c5] at H
    have c5b0 : decide (0 < (l0.length : Int)) = true:=decide_eq_true c5
    have c5b1 : decide (0 < l0.length) = true:=decide_eq_true (by omega)
    clear c5
    replace H:=Option.bind_eq_some_iff.mp H
    obtain ⟨t390,A60,H⟩:=H
    replace H : (some (t390.toList == a1.toList)) = some r:=H
    have A6:=As.mk A60
    clear A60
    obtain rfl:=Option.some.inj H
    have p389 : 0 ≤ (0 : Int):=(by omega)
    have q389 : 0 < (l0.length : Int):=of_decide_eq_true (by first | (with_reducible assumption) | assumption)
    obtain ⟨ad389,A389_3,c389_3,e389,hx389_0,hx389_1,hx389_2,hx389_3,hx389_4,hx389_5,hl389_3,hi389_3⟩:=at_T34 HR0.out 0 p389 q389
    cases e389
    have qi389 : (0 < l0.length) = True:=eq_true (by omega)
    (try rw [show ((0 : Int)).toNat = 0 from rfl] at hx389_0)
    (try rw [show 0 * 6 = 0 from rfl] at hx389_0)
    (try rw [Addr.add_zero'] at hx389_0)
    (try rw [show ((0 : Int)).toNat = 0 from rfl] at hx389_1)
    (try rw [show 0 * 6 = 0 from rfl] at hx389_1)
    (try rw [Addr.add_zero'] at hx389_1)
    (try rw [show ((0 : Int)).toNat = 0 from rfl] at hx389_2)
    (try rw [show 0 * 6 = 0 from rfl] at hx389_2)
    (try rw [Addr.add_zero'] at hx389_2)
    (try rw [show ((0 : Int)).toNat = 0 from rfl] at hx389_3)
    (try rw [show 0 * 6 = 0 from rfl] at hx389_3)
    (try rw [Addr.add_zero'] at hx389_3)
    (try rw [show ((0 : Int)).toNat = 0 from rfl] at hx389_4)
    (try rw [show 0 * 6 = 0 from rfl] at hx389_4)
    (try rw [Addr.add_zero'] at hx389_4)
    (try rw [show ((0 : Int)).toNat = 0 from rfl] at hx389_5)
    (try rw [show 0 * 6 = 0 from rfl] at hx389_5)
    (try rw [Addr.add_zero'] at hx389_5)
    have HR389_3:=As.mk hi389_3
    have HC389_3:=As.mk hl389_3
    clear hi389_3 hl389_3
    replace p389:=eq_true p389
    replace q389:=eq_true q389
    go_enter Tryz.func73,Tryz.ntmps73
    go_wp2_with (first | (go_at_call 60;(with_reducible refine (def_Key.calls k ((rd_T34 l0 0).f0) ((rd_T34 l0 0).f1) ((rd_T34 l0 0).f2) _ _ ((rd_T34 l0 0).f3) ((rd_T34 l0 0).f4) ((rd_T34 l0 0).f5) t390 _ ?side1 ?side2 A6.out).mono ?_);(case side1=>repeat (first | exact HR389_3.out | (with_reducible refine Kd.C_alloc ?_ _) | (with_reducible refine Kd.C_drewN ?_ _) | (with_reducible refine Kd.C_drew ?_)));(case side2=>exact HC389_3.out);rintro e w7 ⟨rfl,hb⟩;have n0_:=As.mk (bS (by repeat (first | (with_reducible first | exact HB.out | apply bA | apply bN | apply bD) | exact HB.out)) hb);clear HB;have HB:=n0_;clear n0_;(try clear hb);(try clear hb2);(try clear hk);(try clear hi)))
    go_ret
    exact ⟨by first | rfl | (simp [eN,eS] <;> rfl) | (simp [*,eN,eS] <;> rfl),by repeat (first | (with_reducible first | exact HB.out | apply bA | apply bN | apply bD) | exact HB.out)⟩
   ·rw [if_neg c5] at H
    exact absurd H (by simp)
  ·rw [if_neg c4] at H
   have c4b0 : ((l0.length : Int) == 1) = false:=beq_eq_false_iff_ne.mpr c4
   have c4b1 : ((l0.length : Int) != 1) = true:=bne_iff_ne.mpr c4
   obtain rfl:=Option.some.inj H
   go_enter Tryz.func73,Tryz.ntmps73
   go_wp2
   go_ret
   exact ⟨by first | rfl | (simp [eN,eS] <;> rfl) | (simp [*,eN,eS] <;> rfl),by repeat (first | (with_reducible first | exact HB.out | apply bA | apply bN | apply bD) | exact HB.out)⟩
/-! ### r01_Rest: function 31 -/
/-! ### bytes_Clone: function 120 -/
/-! ### r01_octets: function 121 -/
/-! ### r01_Num: function 80 -/
/-! ### r01_Text: function 122 -/
/-! ### r01_Texts: function 123 -/
end Go.Proofs.YtmlebgikdegjjaaGreatDoor.PAll
