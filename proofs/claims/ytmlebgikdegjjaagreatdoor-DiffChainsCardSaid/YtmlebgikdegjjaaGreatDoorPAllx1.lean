import Derived.Test.YtmlebgikdegjjaaGreatDoorPAllx0
import Derived.Test.YtmlebgikdegjjaaGreatDoorShelfB
set_option maxHeartbeats 8000000
set_option maxRecDepth 100000
namespace Go.Proofs.YtmlebgikdegjjaaGreatDoor.PAll
open Go.RowKit Go.Proofs.YtmlebgikdegjjaaGreatDoorW.PrintWords Go.Proofs.YtmlebgikdegjjaaGreatDoorW.PrintLast Go.Proofs.YtmlebgikdegjjaaGreatDoorW.PrintMore
attribute [local go_sem] max2_int min2_int max_two min_two max_three min_three max_four min_four   -- for this text's walks alone
set_option linter.unusedVariables false
set_option linter.unusedSimpArgs false
/-! ### name_small: function 163 -/
def name_small.f (a0 : Int) : Option (Bool):=if a0 ≥ 97 then (some (decide (a0 ≤ 122))) else (some false)
theorem name_small.calls (a0 : Int) (r : Bool) (w : World) (h : name_small.f a0 = some r) :
  Calls Tryz.prog 163 #[.int .i32 a0] w fun e w'=>e = .returned (.bool r) ∧ Drawn0 w w':=by
 have H : (if a0 ≥ 97 then (some (decide (a0 ≤ 122))) else (some false)) = some r:=h
 clear h
 by_cases c2 : a0 ≥ 97
 ·rw [if_pos c2] at H
  have c2b0 : decide (97 ≤ a0) = true:=decide_eq_true c2
  clear c2
  obtain rfl:=Option.some.inj H
  go_enter Tryz.func163,Tryz.ntmps163
  go_wp2
  go_ret
  exact ⟨by first | rfl | (simp;done) | (simp [*];done),by repeat (first | exact Drawn0.refl _ | apply Drawn0.step)⟩
 ·rw [if_neg c2] at H
  have c2b0 : decide (97 ≤ a0) = false:=decide_eq_false c2
  clear c2
  obtain rfl:=Option.some.inj H
  go_enter Tryz.func163,Tryz.ntmps163
  go_wp2
  go_ret
  exact ⟨by first | rfl | (simp;done) | (simp [*];done),by repeat (first | exact Drawn0.refl _ | apply Drawn0.step)⟩
/-! ### name_large: function 143 -/
def name_large.f (a0 : Int) : Option (Bool):=if a0 ≥ 65 then (some (decide (a0 ≤ 90))) else (some false)
theorem name_large.calls (a0 : Int) (r : Bool) (w : World) (h : name_large.f a0 = some r) :
  Calls Tryz.prog 143 #[.int .i32 a0] w fun e w'=>e = .returned (.bool r) ∧ Drawn0 w w':=by
 have H : (if a0 ≥ 65 then (some (decide (a0 ≤ 90))) else (some false)) = some r:=h
 clear h
 by_cases c2 : a0 ≥ 65
 ·rw [if_pos c2] at H
  have c2b0 : decide (65 ≤ a0) = true:=decide_eq_true c2
  clear c2
  obtain rfl:=Option.some.inj H
  go_enter Tryz.func143,Tryz.ntmps143
  go_wp2
  go_ret
  exact ⟨by first | rfl | (simp;done) | (simp [*];done),by repeat (first | exact Drawn0.refl _ | apply Drawn0.step)⟩
 ·rw [if_neg c2] at H
  have c2b0 : decide (65 ≤ a0) = false:=decide_eq_false c2
  clear c2
  obtain rfl:=Option.some.inj H
  go_enter Tryz.func143,Tryz.ntmps143
  go_wp2
  go_ret
  exact ⟨by first | rfl | (simp;done) | (simp [*];done),by repeat (first | exact Drawn0.refl _ | apply Drawn0.step)⟩
/-! ### name_digit: function 164 -/
def name_digit.f (a0 : Int) : Option (Bool):=if a0 ≥ 48 then (some (decide (a0 ≤ 57))) else (some false)
theorem name_digit.calls (a0 : Int) (r : Bool) (w : World) (h : name_digit.f a0 = some r) :
  Calls Tryz.prog 164 #[.int .i32 a0] w fun e w'=>e = .returned (.bool r) ∧ Drawn0 w w':=by
 have H : (if a0 ≥ 48 then (some (decide (a0 ≤ 57))) else (some false)) = some r:=h
 clear h
 by_cases c2 : a0 ≥ 48
 ·rw [if_pos c2] at H
  have c2b0 : decide (48 ≤ a0) = true:=decide_eq_true c2
  clear c2
  obtain rfl:=Option.some.inj H
  go_enter Tryz.func164,Tryz.ntmps164
  go_wp2
  go_ret
  exact ⟨by first | rfl | (simp;done) | (simp [*];done),by repeat (first | exact Drawn0.refl _ | apply Drawn0.step)⟩
 ·rw [if_neg c2] at H
  have c2b0 : decide (48 ≤ a0) = false:=decide_eq_false c2
  clear c2
  obtain rfl:=Option.some.inj H
  go_enter Tryz.func164,Tryz.ntmps164
  go_wp2
  go_ret
  exact ⟨by first | rfl | (simp;done) | (simp [*];done),by repeat (first | exact Drawn0.refl _ | apply Drawn0.step)⟩
/-! ### name_Is: function 142 -/
def name_Is.f (a0 : ByteArray) : Option Bool:=some (Nm.isN a0.data.toList)
theorem below_iter (w : World) (s : ByteArray) (p : Nat) : Below w.heap.size w (w.iter s p):=(Below.refl _ _).alloc (Nat.le_refl _) _
theorem small_at (c : Int) (b : Bool) (h : (decide (97 ≤ c) && decide (c ≤ 122)) = b) : name_small.f c = some b:=by
 subst h;unfold name_small.f;by_cases h : 97 ≤ c <;> simp [h]
theorem large_at (c : Int) (b : Bool) (h : (decide (65 ≤ c) && decide (c ≤ 90)) = b) : name_large.f c = some b:=by
 subst h;unfold name_large.f;by_cases h : 65 ≤ c <;> simp [h]
theorem digit_at (c : Int) (b : Bool) (h : (decide (48 ≤ c) && decide (c ≤ 57)) = b) : name_digit.f c = some b:=by
 subst h;unfold name_digit.f;by_cases h : 48 ≤ c <;> simp [h]
theorem dec_class (s : ByteArray) (pos : Nat) (hp : pos < s.size) : ∃ (c : Int) (wd : Nat),(Utf8.decode s pos).1 = c ∧ (Utf8.decode s pos).2 = wd ∧ 1 ≤ wd ∧
  (decide (97 ≤ c) && decide (c ≤ 122)) = Nm.smB s[pos] ∧ (decide (65 ≤ c) && decide (c ≤ 90)) = Nm.lgB s[pos] ∧ (decide (48 ≤ c) && decide (c ≤ 57)) = Nm.dgB s[pos] ∧ ((Nm.smB s[pos] || Nm.lgB s[pos] || Nm.dgB s[pos]) = true → wd = 1):=by
 by_cases ha : (s[pos]'hp).toNat < 128
 ·rw [decode_ascii s pos hp ha]
  refine ⟨_,_,rfl,rfl,by omega,?_,?_,?_,fun _=>rfl⟩
  ·unfold Nm.smB;rw [Bool.eq_iff_iff];simp;omega
  ·unfold Nm.lgB;rw [Bool.eq_iff_iff];simp;omega
  ·unfold Nm.dgB;rw [Bool.eq_iff_iff];simp;omega
 ·have hh:=decode_high s pos hp (by omega)
  have h1 : Nm.smB s[pos] = false:=by unfold Nm.smB;simp;omega
  have h2 : Nm.lgB s[pos] = false:=by unfold Nm.lgB;simp;omega
  have h3 : Nm.dgB s[pos] = false:=by unfold Nm.dgB;simp;omega
  rw [h1,h2,h3]
  refine ⟨_,_,rfl,rfl,hh.2,?_,?_,?_,fun h=>by cases h⟩ <;> (rw [Bool.eq_false_iff];simp;have:=hh.1;omega)
theorem next_anyD {P : Program} (w : World) (s : ByteArray) (pos nd : Nat) (ty : TypeId) (h : pos < s.size) (c : Int) (wd : Nat) (e1 : (Utf8.decode s pos).1 = c) (e2 : (Utf8.decode s pos).2 = wd) :
  (Instr.next (.pointer (some ⟨w.heap.size,0,none⟩)) true ty).run P ((w.iter s pos).drewN nd) = .ok (.tuple #[.bool true,.int .i64 pos,.int .i32 c]) ((w.iter s (pos + wd)).drewN nd):=by
 subst e1 e2
 have hx:=World.iter_set w s pos (pos + (Utf8.decode s pos).2)
 simp only [Instr.next,getObj,setObj,Sem.run_bind,Sem.run,World.heap_drewN,World.iter_heap,Result.andThen,h,if_true]
 simp [goInt]
 exact congrArg (·.drewN nd) hx
theorem next_endD {P : Program} (w : World) (s : ByteArray) (pos nd : Nat) (ty : TypeId) (h : ¬ pos < s.size) :
  (Instr.next (.pointer (some ⟨w.heap.size,0,none⟩)) true ty).run P ((w.iter s pos).drewN nd) = .ok (.tuple #[.bool false]) ((w.iter s pos).drewN nd):=by
 simp [Instr.next,getObj,Sem.run,World.iter_heap,h]
theorem iterPosD (w : World) (s : ByteArray) (pos nd : Nat) : ((w.iter s pos).drewN nd).iterPos w.heap.size = pos:=World.iterPos_iter w s pos
theorem name_Is.calls (a0 : ByteArray) (r : Bool) (w : World) (h : name_Is.f a0 = some r) :
  Calls Tryz.prog 142 #[.string a0] w fun e w'=>e = .returned (.bool r) ∧ Below w.heap.size w w':=by
 obtain rfl : Nm.isN a0.data.toList = r:=Option.some.inj h
 clear h
 go_enter Tryz.func142,Tryz.ntmps142
 go_wp2
 go_loopw [2] (fun v wr=>∃ (pos nd : Nat),v = .bool false ∧ wr = (w.iter a0 pos).drewN nd ∧ pos ≤ a0.size ∧ Nm.letBy a0 pos) (fun _ wr=>a0.size - wr.iterPos w.heap.size)
 case atStart=>exact ⟨0,0,rfl,rfl,Nat.zero_le _,Nm.letBy_zero _⟩
 case round =>
  obtain ⟨pos,nd,rfl,rfl,hle,hlet⟩:=hrel
  have HL:=As.mk hlet
  clear hlet
  by_cases hp : pos < a0.size
  ·obtain ⟨c,wd,e1,e2,hw1,hsm,hlg,hdg,hwd⟩:=dec_class a0 pos hp
   have hnx : ∀ ty,(Instr.next (.pointer (some ⟨w.heap.size,0,none⟩)) true ty).run Tryz.prog ((w.iter a0 pos).drewN nd) = .ok (.tuple #[.bool true,.int .i64 pos,.int .i32 c]) ((w.iter a0 (pos + wd)).drewN nd):=fun ty=>next_anyD w a0 pos nd ty hp c wd e1 e2
   clear e1 e2
   have AS:=As.mk (small_at c _ hsm)
   have AL:=As.mk (large_at c _ hlg)
   have AD:=As.mk (digit_at c _ hdg)
   clear hsm hlg hdg
   have HC:=As.mk (show ∀ b,(Nm.smB a0[pos] || Nm.lgB a0[pos] || (decide (0 < pos) && Nm.dgB a0[pos])) = b → (Nm.smB a0[pos] || Nm.lgB a0[pos] || (decide (0 < pos) && Nm.dgB a0[pos])) = b from fun _ h=>h)
   have HW:=As.mk hwd
   clear hwd
   have HP:=As.mk hp
   have hq0 : pos = 0 ∨ 0 < pos:=by omega
   generalize e1 : Nm.smB a0[pos] = b1 at AS HC HW
   generalize e2 : Nm.lgB a0[pos] = b2 at AL HC HW
   generalize e3 : Nm.dgB a0[pos] = b3 at AD HC HW
   have HE:=As.mk (show (Nm.smB a0[pos] || Nm.lgB a0[pos] || (decide (0 < pos) && Nm.dgB a0[pos])) = (b1 || b2 || (decide (0 < pos) && b3)) by rw [e1,e2,e3])
   clear e1 e2 e3 HC
   cases b1 with
   | true =>
    have hw : wd = 1:=HW.out rfl
    subst hw
    clear HW AL AD
    go_wp2_with (go_at_call 163;(with_reducible refine (name_small.calls c true _ AS.out).mono ?_);rintro e w' ⟨rfl,⟨nd2,rfl⟩⟩)
    go_roundw
    case rel=>exact ⟨pos + 1,_,rfl,rfl,by omega,Nm.letBy_step HL.out HP.out (HE.out.trans rfl)⟩
    case measure=>simp only [iterPosD];omega
   | false =>
    cases b2 with
    | true =>
     have hw : wd = 1:=HW.out rfl
     subst hw
     clear HW AD
     go_wp2_with (first | (go_at_call 163;(with_reducible refine (name_small.calls c false _ AS.out).mono ?_);rintro e w' ⟨rfl,⟨nd2,rfl⟩⟩) | (go_at_call 143;(with_reducible refine (name_large.calls c true _ AL.out).mono ?_);rintro e w' ⟨rfl,⟨nd3,rfl⟩⟩))
     go_roundw
     case rel=>exact ⟨pos + 1,_,rfl,rfl,by omega,Nm.letBy_step HL.out HP.out (HE.out.trans rfl)⟩
     case measure=>simp only [iterPosD];omega
    | false =>
     rcases hq0 with rfl | h0
     ·clear HW AD
      go_wp2_with (first | (go_at_call 163;(with_reducible refine (name_small.calls c false _ AS.out).mono ?_);rintro e w' ⟨rfl,⟨nd2,rfl⟩⟩) | (go_at_call 143;(with_reducible refine (name_large.calls c false _ AL.out).mono ?_);rintro e w' ⟨rfl,⟨nd3,rfl⟩⟩))
      go_ret
      exact ⟨by rw [Nm.isN_not HP.out (HE.out.trans rfl)];rfl,by repeat (first | exact below_iter _ _ _ | apply bN | apply bD)⟩
     ·have hz : ((pos : Int) == 0) = false:=beq_eq_false_iff_ne.2 (by omega)
      cases b3 with
      | true =>
       have hw : wd = 1:=HW.out rfl
       subst hw
       clear HW
       go_wp2_with (first | (go_at_call 163;(with_reducible refine (name_small.calls c false _ AS.out).mono ?_);rintro e w' ⟨rfl,⟨nd2,rfl⟩⟩) | (go_at_call 143;(with_reducible refine (name_large.calls c false _ AL.out).mono ?_);rintro e w' ⟨rfl,⟨nd3,rfl⟩⟩) | (go_at_call 164;(with_reducible refine (name_digit.calls c true _ AD.out).mono ?_);rintro e w' ⟨rfl,⟨nd4,rfl⟩⟩))
       go_roundw
       case rel=>exact ⟨pos + 1,_,rfl,rfl,by omega,Nm.letBy_step HL.out HP.out (HE.out.trans (by simp;omega))⟩
       case measure=>simp only [iterPosD];omega
      | false =>
       clear HW
       go_wp2_with (first | (go_at_call 163;(with_reducible refine (name_small.calls c false _ AS.out).mono ?_);rintro e w' ⟨rfl,⟨nd2,rfl⟩⟩) | (go_at_call 143;(with_reducible refine (name_large.calls c false _ AL.out).mono ?_);rintro e w' ⟨rfl,⟨nd3,rfl⟩⟩) | (go_at_call 164;(with_reducible refine (name_digit.calls c false _ AD.out).mono ?_);rintro e w' ⟨rfl,⟨nd4,rfl⟩⟩))
       go_ret
       exact ⟨by rw [Nm.isN_not HP.out (HE.out.trans (by simp))];rfl,by repeat (first | exact below_iter _ _ _ | apply bN | apply bD)⟩
  ·have hpe : pos = a0.size:=by omega
   subst hpe
   have hnx : ∀ ty,(Instr.next (.pointer (some ⟨w.heap.size,0,none⟩)) true ty).run Tryz.prog ((w.iter a0 a0.size).drewN nd) = .ok (.tuple #[.bool false]) ((w.iter a0 a0.size).drewN nd):=fun ty=>next_endD w a0 a0.size nd ty hp
   have HN:=As.mk (Nm.isN_of HL.out)
   clear HL
   by_cases h1 : (a0.size : Int) ≥ 1
   ·have h1b : decide ((1 : Int) ≤ (a0.size : Int)) = true:=decide_eq_true h1
    go_wp2_with fail
    go_ret
    exact ⟨by rw [HN.out];simp [h1],by repeat (first | exact below_iter _ _ _ | apply bN | apply bD)⟩
   ·have h1b : decide ((1 : Int) ≤ (a0.size : Int)) = false:=decide_eq_false h1
    go_wp2_with fail
    go_ret
    exact ⟨by rw [HN.out,show decide ((a0.size : Int) ≥ 1) = false from h1b];rfl,by repeat (first | exact below_iter _ _ _ | apply bN | apply bD)⟩
/-! ### name_Class: function 112 -/
def name_Class.f (a0 : ByteArray) : Option (Bool):=(name_Is.f a0).bind fun t101=>(if t101 = true then (if 0 < (a0.size : Int) then ((name_large.f (wrap32 (bt a0 0))).bind fun t102=>(some t102)) else (none)) else (some false))
theorem name_Class.calls (a0 : ByteArray) (r : Bool) (w : World) (h : name_Class.f a0 = some r) :
  Calls Tryz.prog 112 #[.string a0] w fun e w'=>e = .returned (.bool r) ∧ Below w.heap.size w w':=by
 have HB:=As.mk (Below.refl w.heap.size w)
 have H : ((name_Is.f a0).bind fun t101=>(if t101 = true then (if 0 < (a0.size : Int) then ((name_large.f (wrap32 (bt a0 0))).bind fun t102=>(some t102)) else (none)) else (some false))) = some r:=h
 clear h
 replace H:=Option.bind_eq_some_iff.mp H
 obtain ⟨t101,A20,H⟩:=H
 replace H : (if t101 = true then (if 0 < (a0.size : Int) then ((name_large.f (wrap32 (bt a0 0))).bind fun t102=>(some t102)) else (none)) else (some false)) = some r:=H
 have A2:=As.mk A20
 clear A20
 by_cases c3 : t101 = true
 ·subst c3
  have H1 : (if 0 < (a0.size : Int) then ((name_large.f (wrap32 (bt a0 0))).bind fun t102=>(some t102)) else (none)) = some r:=by rw [if_pos rfl] at H;exact H
  clear H
  have H:=H1
  clear H1
  by_cases c4 : 0 < (a0.size : Int)
  ·rw [if_pos c4] at H
   have c4b0 : decide (0 < (a0.size : Int)) = true:=decide_eq_true c4
   have c4b1 : decide (0 < a0.size) = true:=decide_eq_true (by omega)
   clear c4
   replace H:=Option.bind_eq_some_iff.mp H
   obtain ⟨t102,A60,H⟩:=H
   replace H : (some t102) = some r:=H
   have A6:=As.mk A60
   clear A60
   obtain rfl:=Option.some.inj H
   go_enter Tryz.func112,Tryz.ntmps112
   go_wp2_with (first | ((with_reducible refine gC (f:=142) rfl ?_);refine goesL_ (some 4) rfl rfl Tryz.func142 (by kernel_rfl) rfl #[.string a0] rfl (by (try simp only [List.map_toArray,List.map_cons,List.map_nil]);first | done | rfl | (simp only [List.length_drop,List.length_take];rfl)) ?_;(with_reducible refine (name_Is.calls a0 true _ A2.out).mono ?_);rintro e w7 ⟨rfl,hb⟩;refine ⟨_,rfl,?_⟩;have n0_:=As.mk (bS (by repeat (first | (with_reducible first | exact HB.out | apply bA | apply bN | apply bD) | exact HB.out)) hb);clear HB;have HB:=n0_;clear n0_;(try clear hb);(try clear hb2);(try clear hk);(try clear hi);have p5 : 0 ≤ (0 : Int):=(by omega);have q5 : 0 < a0.size:=(by have : (0 : Int) < (a0.size : Int):=of_decide_eq_true (by first | (with_reducible assumption) | assumption);omega);have hx5 : ∀ h : 0 < a0.size,((a0[0]'h).toNat : Int) = bt a0 0:=bt_at a0 0;clear p5;have qi5 : (0 < (a0.size : Int)) = True:=eq_true (of_decide_eq_true (by first | (with_reducible assumption) | assumption));replace q5:=eq_true q5) | (go_at_call 143;(with_reducible refine (name_large.calls (wrap32 (bt a0 0)) t102 _ A6.out).mono ?_);rintro e w' ⟨rfl,⟨nd,rfl⟩⟩))
   go_ret
   exact ⟨by first | rfl | (simp [eN,eS] <;> rfl) | (simp [*,eN,eS] <;> rfl),by repeat (first | (with_reducible first | exact HB.out | apply bA | apply bN | apply bD) | exact HB.out)⟩
  ·rw [if_neg c4] at H
   exact absurd H (by simp)
 ·replace c3:=Bool.eq_false_iff.mpr c3
  subst c3
  have H1 : (some false) = some r:=by rw [if_neg (show ¬ (false = true) by decide)] at H;exact H
  clear H
  have H:=H1
  clear H1
  obtain rfl:=Option.some.inj H
  go_enter Tryz.func112,Tryz.ntmps112
  go_wp2_with (first | ((with_reducible refine gC (f:=142) rfl ?_);refine goesL_ (some 4) rfl rfl Tryz.func142 (by kernel_rfl) rfl #[.string a0] rfl (by (try simp only [List.map_toArray,List.map_cons,List.map_nil]);first | done | rfl | (simp only [List.length_drop,List.length_take];rfl)) ?_;(with_reducible refine (name_Is.calls a0 false _ A2.out).mono ?_);rintro e w8 ⟨rfl,hb⟩;refine ⟨_,rfl,?_⟩;have n0_:=As.mk (bS (by repeat (first | (with_reducible first | exact HB.out | apply bA | apply bN | apply bD) | exact HB.out)) hb);clear HB;have HB:=n0_;clear n0_;(try clear hb);(try clear hb2);(try clear hk);(try clear hi)))
  go_ret
  exact ⟨by first | rfl | (simp [eN,eS] <;> rfl) | (simp [*,eN,eS] <;> rfl),by repeat (first | (with_reducible first | exact HB.out | apply bA | apply bN | apply bD) | exact HB.out)⟩
/-! ### name_lower: function 144 -/
def name_lower.f (a0 : ByteArray) : Option (Bool):=(name_Is.f a0).bind fun t103=>(if t103 = true then (if 0 < (a0.size : Int) then ((name_small.f (wrap32 (bt a0 0))).bind fun t104=>(some t104)) else (none)) else (some false))
theorem name_lower.calls (a0 : ByteArray) (r : Bool) (w : World) (h : name_lower.f a0 = some r) :
  Calls Tryz.prog 144 #[.string a0] w fun e w'=>e = .returned (.bool r) ∧ Below w.heap.size w w':=by
 have HB:=As.mk (Below.refl w.heap.size w)
 have H : ((name_Is.f a0).bind fun t103=>(if t103 = true then (if 0 < (a0.size : Int) then ((name_small.f (wrap32 (bt a0 0))).bind fun t104=>(some t104)) else (none)) else (some false))) = some r:=h
 clear h
 replace H:=Option.bind_eq_some_iff.mp H
 obtain ⟨t103,A20,H⟩:=H
 replace H : (if t103 = true then (if 0 < (a0.size : Int) then ((name_small.f (wrap32 (bt a0 0))).bind fun t104=>(some t104)) else (none)) else (some false)) = some r:=H
 have A2:=As.mk A20
 clear A20
 by_cases c3 : t103 = true
 ·subst c3
  have H1 : (if 0 < (a0.size : Int) then ((name_small.f (wrap32 (bt a0 0))).bind fun t104=>(some t104)) else (none)) = some r:=by rw [if_pos rfl] at H;exact H
  clear H
  have H:=H1
  clear H1
  by_cases c4 : 0 < (a0.size : Int)
  ·rw [if_pos c4] at H
   have c4b0 : decide (0 < (a0.size : Int)) = true:=decide_eq_true c4
   have c4b1 : decide (0 < a0.size) = true:=decide_eq_true (by omega)
   clear c4
   replace H:=Option.bind_eq_some_iff.mp H
   obtain ⟨t104,A60,H⟩:=H
   replace H : (some t104) = some r:=H
   have A6:=As.mk A60
   clear A60
   obtain rfl:=Option.some.inj H
   go_enter Tryz.func144,Tryz.ntmps144
   go_wp2_with (first | ((with_reducible refine gC (f:=142) rfl ?_);refine goesL_ (some 4) rfl rfl Tryz.func142 (by kernel_rfl) rfl #[.string a0] rfl (by (try simp only [List.map_toArray,List.map_cons,List.map_nil]);first | done | rfl | (simp only [List.length_drop,List.length_take];rfl)) ?_;(with_reducible refine (name_Is.calls a0 true _ A2.out).mono ?_);rintro e w7 ⟨rfl,hb⟩;refine ⟨_,rfl,?_⟩;have n0_:=As.mk (bS (by repeat (first | (with_reducible first | exact HB.out | apply bA | apply bN | apply bD) | exact HB.out)) hb);clear HB;have HB:=n0_;clear n0_;(try clear hb);(try clear hb2);(try clear hk);(try clear hi);have p5 : 0 ≤ (0 : Int):=(by omega);have q5 : 0 < a0.size:=(by have : (0 : Int) < (a0.size : Int):=of_decide_eq_true (by first | (with_reducible assumption) | assumption);omega);have hx5 : ∀ h : 0 < a0.size,((a0[0]'h).toNat : Int) = bt a0 0:=bt_at a0 0;clear p5;have qi5 : (0 < (a0.size : Int)) = True:=eq_true (of_decide_eq_true (by first | (with_reducible assumption) | assumption));replace q5:=eq_true q5) | (go_at_call 163;(with_reducible refine (name_small.calls (wrap32 (bt a0 0)) t104 _ A6.out).mono ?_);rintro e w' ⟨rfl,⟨nd,rfl⟩⟩))
   go_ret
   exact ⟨by first | rfl | (simp [eN,eS] <;> rfl) | (simp [*,eN,eS] <;> rfl),by repeat (first | (with_reducible first | exact HB.out | apply bA | apply bN | apply bD) | exact HB.out)⟩
  ·rw [if_neg c4] at H
   exact absurd H (by simp)
 ·replace c3:=Bool.eq_false_iff.mpr c3
  subst c3
  have H1 : (some false) = some r:=by rw [if_neg (show ¬ (false = true) by decide)] at H;exact H
  clear H
  have H:=H1
  clear H1
  obtain rfl:=Option.some.inj H
  go_enter Tryz.func144,Tryz.ntmps144
  go_wp2_with (first | ((with_reducible refine gC (f:=142) rfl ?_);refine goesL_ (some 4) rfl rfl Tryz.func142 (by kernel_rfl) rfl #[.string a0] rfl (by (try simp only [List.map_toArray,List.map_cons,List.map_nil]);first | done | rfl | (simp only [List.length_drop,List.length_take];rfl)) ?_;(with_reducible refine (name_Is.calls a0 false _ A2.out).mono ?_);rintro e w8 ⟨rfl,hb⟩;refine ⟨_,rfl,?_⟩;have n0_:=As.mk (bS (by repeat (first | (with_reducible first | exact HB.out | apply bA | apply bN | apply bD) | exact HB.out)) hb);clear HB;have HB:=n0_;clear n0_;(try clear hb);(try clear hb2);(try clear hk);(try clear hi)))
  go_ret
  exact ⟨by first | rfl | (simp [eN,eS] <;> rfl) | (simp [*,eN,eS] <;> rfl),by repeat (first | (with_reducible first | exact HB.out | apply bA | apply bN | apply bD) | exact HB.out)⟩
/-! ### strings_Trim: function 165 -/
def strings_Trim.f (a0 a1 : ByteArray) : Option ByteArray:=if (a1.data.toList.all (fun b=>decide (b.toNat < 128)) && decide (a1.size < 4294967281) && decide (a0.size ≤ 9223372036854775807)) = true then some ⟨(Lib.trimS a0.data.toList a1.data.toList).toArray⟩ else none
theorem strings_Trim.calls (a0 : ByteArray) (a1 : ByteArray) (r : ByteArray) (w : World) (h : strings_Trim.f a0 a1 = some r) :
  Calls Tryz.prog 165 #[.string a0,.string a1] w fun e w'=>e = .returned (.string r) ∧ Below w.heap.size w w':=by
 unfold strings_Trim.f at h
 by_cases hs : (a1.data.toList.all (fun b=>decide (b.toNat < 128)) && decide (a1.size < 4294967281) && decide (a0.size ≤ 9223372036854775807)) = true
 ·rw [if_pos hs] at h
  obtain rfl:=Option.some.inj h
  rw [Bool.and_eq_true,Bool.and_eq_true,decide_eq_true_eq,decide_eq_true_eq] at hs
  exact Any.strings_Trim_laid Tryz.lays160 (by kernel_rfl) a0 a1 w hs.2 hs.1.2 (ascii_of_all hs.1.1)
 ·rw [if_neg hs] at h
  cases h
/-! ### name_binary: function 145 -/
def name_binary.f (a0 : ByteArray) : Option (Bool):=if (a0.size : Int) = 1 then ((strings_Trim.f a0 (⟨#[43,45,42,47,60,62,61,126,38,44,64,37]⟩ : ByteArray)).bind fun t105=>(some (t105.toList == ([] : List UInt8)))) else (if (a0.size : Int) = 2 then ((strings_Trim.f a0 (⟨#[43,45,42,47,60,62,61,126,38,44,64,37]⟩ : ByteArray)).bind fun t106=>(some (t106.toList == ([] : List UInt8)))) else (some false))
theorem name_binary.calls (a0 : ByteArray) (r : Bool) (w : World) (h : name_binary.f a0 = some r) :
  Calls Tryz.prog 145 #[.string a0] w fun e w'=>e = .returned (.bool r) ∧ Below w.heap.size w w':=by
 have HB:=As.mk (Below.refl w.heap.size w)
 have H : (if (a0.size : Int) = 1 then ((strings_Trim.f a0 (⟨#[43,45,42,47,60,62,61,126,38,44,64,37]⟩ : ByteArray)).bind fun t105=>(some (t105.toList == ([] : List UInt8)))) else (if (a0.size : Int) = 2 then ((strings_Trim.f a0 (⟨#[43,45,42,47,60,62,61,126,38,44,64,37]⟩ : ByteArray)).bind fun t106=>(some (t106.toList == ([] : List UInt8)))) else (some false))) = some r:=h
 clear h
 by_cases c2 : (a0.size : Int) = 1
 ·rw [if_pos c2] at H
  have c2b0 : ((a0.size : Int) == 1) = true:=beq_iff_eq.mpr c2
  have c2b1 : ((a0.size : Int) != 1) = false:=bne_eq_false_iff_eq.mpr c2
  clear c2
  replace H:=Option.bind_eq_some_iff.mp H
  obtain ⟨t105,A30,H⟩:=H
  replace H : (some (t105.toList == ([] : List UInt8))) = some r:=H
  have A3:=As.mk A30
  clear A30
  obtain rfl:=Option.some.inj H
  go_enter Tryz.func145,Tryz.ntmps145
  go_wp2_with (first | (go_at_call 165;(with_reducible refine (strings_Trim.calls a0 (⟨#[43,45,42,47,60,62,61,126,38,44,64,37]⟩ : ByteArray) t105 _ A3.out).mono ?_);rintro e w4 ⟨rfl,hb⟩;have n0_:=As.mk (bS (by repeat (first | (with_reducible first | exact HB.out | apply bA | apply bN | apply bD) | exact HB.out)) hb);clear HB;have HB:=n0_;clear n0_;(try clear hb);(try clear hb2);(try clear hk);(try clear hi)))
  go_ret
  exact ⟨by first | rfl | (simp [eN,eS] <;> rfl) | (simp [*,eN,eS] <;> rfl),by repeat (first | (with_reducible first | exact HB.out | apply bA | apply bN | apply bD) | exact HB.out)⟩
 ·rw [if_neg c2] at H
  have c2b0 : ((a0.size : Int) == 1) = false:=beq_eq_false_iff_ne.mpr c2
  have c2b1 : ((a0.size : Int) != 1) = true:=bne_iff_ne.mpr c2
  by_cases c5 : (a0.size : Int) = 2
  ·rw [if_pos c5] at H
   have c5b0 : ((a0.size : Int) == 2) = true:=beq_iff_eq.mpr c5
   have c5b1 : ((a0.size : Int) != 2) = false:=bne_eq_false_iff_eq.mpr c5
   clear c5
   replace H:=Option.bind_eq_some_iff.mp H
   obtain ⟨t106,A60,H⟩:=H
   replace H : (some (t106.toList == ([] : List UInt8))) = some r:=H
   have A6:=As.mk A60
   clear A60
   obtain rfl:=Option.some.inj H
   go_enter Tryz.func145,Tryz.ntmps145
   go_wp2_with (first | (go_at_call 165;(with_reducible refine (strings_Trim.calls a0 (⟨#[43,45,42,47,60,62,61,126,38,44,64,37]⟩ : ByteArray) t106 _ A6.out).mono ?_);rintro e w7 ⟨rfl,hb⟩;have n0_:=As.mk (bS (by repeat (first | (with_reducible first | exact HB.out | apply bA | apply bN | apply bD) | exact HB.out)) hb);clear HB;have HB:=n0_;clear n0_;(try clear hb);(try clear hb2);(try clear hk);(try clear hi)))
   go_ret
   exact ⟨by first | rfl | (simp [eN,eS] <;> rfl) | (simp [*,eN,eS] <;> rfl),by repeat (first | (with_reducible first | exact HB.out | apply bA | apply bN | apply bD) | exact HB.out)⟩
  ·rw [if_neg c5] at H
   have c5b0 : ((a0.size : Int) == 2) = false:=beq_eq_false_iff_ne.mpr c5
   have c5b1 : ((a0.size : Int) != 2) = true:=bne_iff_ne.mpr c5
   obtain rfl:=Option.some.inj H
   go_enter Tryz.func145,Tryz.ntmps145
   go_wp2
   go_ret
   exact ⟨by first | rfl | (simp [eN,eS] <;> rfl) | (simp [*,eN,eS] <;> rfl),by repeat (first | (with_reducible first | exact HB.out | apply bA | apply bN | apply bD) | exact HB.out)⟩
/-! ### strings_TrimSuffix: function 169 -/
def strings_TrimSuffix.f (a0 a1 : ByteArray) : Option ByteArray:=if a0.size ≤ 9223372036854775807 then some ⟨(Lib.trimSuffix a0.data.toList a1.data.toList).toArray⟩ else none
theorem strings_TrimSuffix.calls (a0 : ByteArray) (a1 : ByteArray) (r : ByteArray) (w : World) (h : strings_TrimSuffix.f a0 a1 = some r) :
  Calls Tryz.prog 169 #[.string a0,.string a1] w fun e w'=>e = .returned (.string r) ∧ Drawn0 w w':=by
 unfold strings_TrimSuffix.f at h
 by_cases hs : a0.size ≤ 9223372036854775807
 ·rw [if_pos hs] at h
  obtain rfl:=Option.some.inj h
  exact (Tryz.strings_TrimSuffix a0 a1 w hs).mono fun e w' ⟨he,hw⟩=>⟨he,hw ▸ Drawn0.refl _⟩
 ·rw [if_neg hs] at h
  cases h
/-! ### name_keywords_1: function 168 -/
def name_keywords_1.f (a0 : ByteArray) : Option (Bool):=(strings_TrimSuffix.f a0 (⟨#[58]⟩ : ByteArray)).bind fun t107=>((name_lower.f t107).bind fun t108=>(some (!t108)))
theorem name_keywords_1.calls (a0 : ByteArray) (r : Bool) (w : World) (h : name_keywords_1.f a0 = some r) :
  Calls Tryz.prog 168 #[.string a0] w fun e w'=>e = .returned (.bool r) ∧ Below w.heap.size w w':=by
 have HB:=As.mk (Below.refl w.heap.size w)
 have H : ((strings_TrimSuffix.f a0 (⟨#[58]⟩ : ByteArray)).bind fun t107=>((name_lower.f t107).bind fun t108=>(some (!t108)))) = some r:=h
 clear h
 replace H:=Option.bind_eq_some_iff.mp H
 obtain ⟨t107,A20,H⟩:=H
 replace H : ((name_lower.f t107).bind fun t108=>(some (!t108))) = some r:=H
 have A2:=As.mk A20
 clear A20
 replace H:=Option.bind_eq_some_iff.mp H
 obtain ⟨t108,A30,H⟩:=H
 replace H : (some (!t108)) = some r:=H
 have A3:=As.mk A30
 clear A30
 obtain rfl:=Option.some.inj H
 go_enter Tryz.func168,Tryz.ntmps168
 go_wp2_with (first | ((with_reducible refine gC (f:=169) rfl ?_);refine goesL_ (some 4) rfl rfl Tryz.func169 (by kernel_rfl) rfl #[.string a0,.string (⟨#[58]⟩ : ByteArray)] rfl (by (try simp only [List.map_toArray,List.map_cons,List.map_nil]);first | done | rfl | (simp only [List.length_drop,List.length_take];rfl)) ?_;(with_reducible refine (strings_TrimSuffix.calls a0 (⟨#[58]⟩ : ByteArray) t107 _ A2.out).mono ?_);rintro e w' ⟨rfl,⟨nd,rfl⟩⟩;refine ⟨_,rfl,?_⟩) | ((with_reducible refine gC (f:=144) rfl ?_);refine goesL_ (some 5) rfl rfl Tryz.func144 (by kernel_rfl) rfl #[.string t107] rfl (by (try simp only [List.map_toArray,List.map_cons,List.map_nil]);first | done | rfl | (simp only [List.length_drop,List.length_take];rfl)) ?_;(with_reducible refine (name_lower.calls t107 t108 _ A3.out).mono ?_);rintro e w4 ⟨rfl,hb⟩;refine ⟨_,rfl,?_⟩;have n0_:=As.mk (bS (by repeat (first | (with_reducible first | exact HB.out | apply bA | apply bN | apply bD) | exact HB.out)) hb);clear HB;have HB:=n0_;clear n0_;(try clear hb);(try clear hb2);(try clear hk);(try clear hi)))
 go_ret
 exact ⟨by first | rfl | (simp [eN,eS] <;> rfl) | (simp [*,eN,eS] <;> rfl),by repeat (first | (with_reducible first | exact HB.out | apply bA | apply bN | apply bD) | exact HB.out)⟩
/-! ### name_keywords: function 146 -/
def name_keywords.f (a0 : ByteArray) : Option (List ByteArray):=if a0.size < 4294967281 then some ((Nm.kwN a0.data.toList).map fun l=>⟨l.toArray⟩) else none
theorem cells_full (xs : List ByteArray) (N : Nat) (h : xs.length = N) : Lib.cellsOf xs N = (xs.map Value.string).toArray:=by
 subst h;exact Lib.cellsOf_full _
theorem splitAfter_colon (s : ByteArray) (w : World) (hs : s.size < 4294967281) :
  Calls Tryz.prog 166 #[.string s,.string ⟨#[58]⟩] w fun e w' =>
   e = .returned (.slice (some ⟨w.heap.size,0,none⟩) (Lib.countB s ⟨#[58]⟩ + 1) (Lib.countB s ⟨#[58]⟩ + 1)) ∧ w' = w.alloc (.cells ((Lib.splitB ⟨#[58]⟩ 1 (Lib.countB s ⟨#[58]⟩) s).map Value.string).toArray 9):=by
 have hle:=Lib.countB_le (⟨#[58]⟩ : ByteArray) (by decide) s.size s (Nat.le_refl _)
 have hlen:=Lib.splitB_all (⟨#[58]⟩ : ByteArray) (by decide) 1 _ s rfl
 have c:=Any.strings_genSplit_core Tryz.lays221 (by kernel_rfl) s ⟨#[58]⟩ 1 (-1) (Lib.countB s ⟨#[58]⟩ + 1) w hs (by decide) (by decide)
  (fun x c hx=>(Tryz.strings_Index_one x 58 _).mono fun e w' ⟨he,hw⟩=>⟨by rw [he];exact congrArg (fun z=>Ending.returned (Value.int .i64 z)) (show Lib.indexByte x.data.toList 58 = Lib.index x.data.toList [58] from (Lib.index_one _ _).symm),hw⟩)
  ((Tryz.strings_Count_one s 58 w).mono fun e w' ⟨he,hw⟩=>⟨by rw [he];show Ending.returned (Value.int .i64 ((Lib.countByte s.data.toList 58 : Nat) : Int)) = Ending.returned (Value.int .i64 ((Lib.count s.data.toList [58] : Nat) : Int));rw [Lib.count_one];rfl,hw⟩)
  (by decide) (by decide) (by rw [if_pos (by decide)];omega)
 rw [Nat.add_sub_cancel,hlen,cells_full _ _ hlen] at c
 clear hlen
 generalize Lib.countB s ⟨#[58]⟩ = n at *
 generalize ((Lib.splitB ⟨#[58]⟩ 1 n s).map Value.string).toArray = cs at *
 go_enter Tryz.func166,Tryz.ntmps166
 go_wp2_with (go_at_call 189;refine c.mono ?_;rintro e w' ⟨rfl,rfl⟩)
 go_ret
 exact ⟨rfl,rfl⟩
theorem bt_head (s : ByteArray) (h : 0 < s.size) : bt s 0 = ((s.data.toList.headD 0).toNat : Int):=by
 rw [Nm.head_data s h,← bt_at s 0 h];rfl
theorem lower_val (p : ByteArray) : name_lower.f p = some (Nm.lowN p.data.toList):=by
 unfold name_lower.f name_Is.f Nm.lowN
 rw [Option.bind_some]
 cases hi : Nm.isN p.data.toList with
 | false=>rfl
 | true =>
  have h0 : 0 < p.size:=by
   unfold Nm.isN at hi
   simp only [Bool.and_eq_true,decide_eq_true_eq] at hi
   rw [Nm.len_data] at hi
   omega
  rw [if_pos rfl,if_pos (by omega),bt_head p h0,Bool.true_and]
  rw [show wrap32 (((p.data.toList.headD 0).toNat : Nat) : Int) = ((p.data.toList.headD 0).toNat : Int) by have:=(p.data.toList.headD 0).toNat_lt;unfold wrap32;omega]
  rw [small_at _ (Nm.smB (p.data.toList.headD 0)) (by unfold Nm.smB;rw [Bool.eq_iff_iff];simp;omega)]
  rfl
theorem keyword_bad (p : ByteArray) (hs : p.size ≤ 9223372036854775807) : name_keywords_1.f p = some (!Nm.goodP p.data.toList):=by
 unfold name_keywords_1.f strings_TrimSuffix.f
 rw [if_pos hs,Option.bind_some,lower_val,Option.bind_some]
 rfl
def firstBad (l : List ByteArray) : Int:=match l.findIdx? (fun p=>!Nm.goodP p.data.toList) with | some i=>(i : Int) | none=>-1
theorem firstBad_some {l : List ByteArray} {k : Nat} (h : k < l.length) (hk : ∀ j (hj : j < l.length),j < k → Nm.goodP (l[j]).data.toList = true) (hb : Nm.goodP (l[k]).data.toList = false) : firstBad l = k:=by
 unfold firstBad
 rw [show l.findIdx? (fun p=>!Nm.goodP p.data.toList) = some k from by
  rw [List.findIdx?_eq_some_iff_getElem]
  refine ⟨h,by rw [hb];rfl,fun j hj=>?_⟩
  rw [hk j (by omega) hj];decide]
theorem firstBad_none {l : List ByteArray} (hk : ∀ j (hj : j < l.length),Nm.goodP (l[j]).data.toList = true) : firstBad l = -1:=by
 unfold firstBad
 rw [show l.findIdx? (fun p=>!Nm.goodP p.data.toList) = none from by
  rw [List.findIdx?_eq_none_iff]
  intro x hx
  obtain ⟨i,hi,rfl⟩:=List.getElem_of_mem hx
  rw [hk i hi];rfl]
theorem firstBad_all (l : List ByteArray) : decide (0 ≤ firstBad l) = !(l.all fun p=>Nm.goodP p.data.toList):=by
 unfold firstBad
 cases h : l.findIdx? (fun p=>!Nm.goodP p.data.toList) with
 | none =>
  rw [List.findIdx?_eq_none_iff] at h
  have : (l.all fun p=>Nm.goodP p.data.toList) = true:=by
   rw [List.all_eq_true];intro x hx;have:=h x hx;simpa using this
  rw [this];rfl
 | some i =>
  obtain ⟨hi,hb,_⟩:=List.findIdx?_eq_some_iff_getElem.1 h
  have : (l.all fun p=>Nm.goodP p.data.toList) = false:=by
   rw [List.all_eq_false];exact ⟨l[i],List.getElem_mem _,by simpa using hb⟩
  rw [this]
  show decide ((0 : Int) ≤ (i : Int)) = true
  exact decide_eq_true (by omega)
theorem indexFunc_bad (A : Option Addr) (c : Nat) (l : List ByteArray) (w : World) (hr0 : Kd.C Kd.string w A l.length l) (hsz : ∀ p ∈ l,p.size ≤ 9223372036854775807) (hl : l.length ≤ 140737488355328) :
  Calls Tryz.prog 190 #[.slice A l.length c,Value.func (Fn.func 168) #[] #[]] w fun e w'=>e = .returned (.int .i64 (firstBad l)) ∧ Below w.heap.size w w':=by
 have HR0:=As.mk hr0
 have HZ:=As.mk hsz
 clear hr0 hsz
 go_enter Tryz.func190,Tryz.ntmps190
 go_wp2
 go_loopw [8] (fun v wr=>∃ k : Nat,k ≤ l.length ∧ v = .int .i64 k ∧ As (∀ j (hj : j < l.length),j < k → Nm.goodP (l[j]).data.toList = true) ∧ As (Below w.heap.size w wr)) (fun v _=>l.length - (intOf v).toNat)
 case atStart=>exact ⟨0,Nat.zero_le _,rfl,⟨fun _ _ h=>absurd h (by omega)⟩,⟨Below.refl _ _⟩⟩
 case round =>
  obtain ⟨k,hk,rfl,HG,HB⟩:=hrel
  by_cases hlt : k < l.length
  ·obtain ⟨ad,e1,hx⟩:=Kd.at_string (Kd.C_below HR0.out HB.out) (k : Int) (by omega) (by omega)
   subst e1
   have hx' : wr.cell? (ad.add k) = some (.string (l[k])):=by
    rw [show rdOf ByteArray.empty l (k : Int) = l[k] from by unfold rdOf;simp [List.getD_eq_getElem?_getD,hlt]] at hx
    exact hx
   clear hx
   have hp:=As.mk (keyword_bad (l[k]) (HZ.out _ (List.getElem_mem _)))
   generalize hq : l[k] = q at *
   have HQ:=As.mk hq
   clear hq
   generalize hb : Nm.goodP q.data.toList = b at *
   have HBB:=As.mk hb
   clear hb
   cases b with
   | true =>
    have hp2:=As.mk (show name_keywords_1.f q = some false from hp.out)
    clear hp
    go_wp2_with (go_at_call 168;(with_reducible refine (name_keywords_1.calls q false _ hp2.out).mono ?_);rintro e w' ⟨rfl,hb⟩;have HB2:=As.mk (bS HB.out hb);clear hb)
    go_roundw
    case rel =>
     refine ⟨k + 1,by omega,by go_num,⟨fun j hj hlt2=>?_⟩,HB2⟩
     by_cases e : j = k
     ·subst e;rw [HQ.out];exact HBB.out
     ·exact HG.out j hj (by omega)
    case measure=>simp [intOf];omega
   | false =>
    have hp2:=As.mk (show name_keywords_1.f q = some true from hp.out)
    clear hp
    go_wp2_with (go_at_call 168;(with_reducible refine (name_keywords_1.calls q true _ hp2.out).mono ?_);rintro e w' ⟨rfl,hb⟩;have HB2:=As.mk (bS HB.out hb);clear hb)
    go_ret
    exact ⟨by rw [firstBad_some hlt HG.out (by rw [HQ.out];exact HBB.out)];rfl,HB2.out⟩
  ·have hk2 : k = l.length:=by omega
   have HE:=As.mk (firstBad_none (l:=l) (fun j hj=>HG.out j hj (by omega)))
   clear hk2
   go_wp2_with fail
   go_ret
   exact ⟨by rw [HE.out];rfl,HB.out⟩
theorem containsFunc_bad (A : Option Addr) (c : Nat) (l : List ByteArray) (w : World) (hr0 : Kd.C Kd.string w A l.length l) (hsz : ∀ p ∈ l,p.size ≤ 9223372036854775807) (hl : l.length ≤ 140737488355328) :
  Calls Tryz.prog 167 #[.slice A l.length c,Value.func (Fn.func 168) #[] #[]] w fun e w'=>e = .returned (.bool (!(l.all fun p=>Nm.goodP p.data.toList))) ∧ Below w.heap.size w w':=by
 have hi:=indexFunc_bad A c l w hr0 hsz hl
 have hf:=As.mk (firstBad_all l)
 clear hr0 hsz
 generalize firstBad l = z at *
 go_enter Tryz.func167,Tryz.ntmps167
 go_wp2_with (go_at_call 190;refine hi.mono ?_;rintro e w' ⟨rfl,hb⟩)
 go_ret
 exact ⟨by rw [← hf.out];rfl,hb⟩
theorem own_front (W : World) (base g n : Nat) (ps : List ByteArray) (hb : base ≤ g) (hg : W.heap[g]? = some (.cells (ps.map Value.string).toArray 9 (0,0))) (hn : n ≤ ps.length) (hl : ps.length ≤ 9223372036854775807) :
  Kd.R Kd.string 9 W base (fun _=>True) (.slice (some ⟨g,0,none⟩) n ps.length) (ps.take n):=by
 refine Kd.R_of_own ⟨by simp [encs],.inr ⟨g,ps.length,_,by rw [List.length_take,Nat.min_eq_left hn],hb,hg,by rw [List.length_take];omega,by unfold maxLen;exact hl,by simp,by simp [encs,List.length_take,Nat.min_eq_left hn]⟩⟩ (fun _ _=>trivial)
theorem mk_data (p : ByteArray) : (⟨p.data.toList.toArray⟩ : ByteArray) = p:=by simp
theorem goKw_none (ps : List ByteArray) (n : Nat) (hl : ps.length = n + 1) (h : n + 1 < 2 ∨ 11 < n + 1) : Nm.goKw (ps.map (·.data.toList)) = []:=by
 unfold Nm.goKw
 rw [List.length_map,hl,if_pos (h.elim Or.inl (fun h=>Or.inr (Or.inl h)))]
theorem goKw_last (ps : List ByteArray) (n : Nat) (hl : ps.length = n + 1) (h : ps[n] ≠ ⟨#[]⟩) : Nm.goKw (ps.map (·.data.toList)) = []:=by
 unfold Nm.goKw
 have e : (ps.map (·.data.toList)).getLast? = some (ps[n].data.toList):=by
  rw [List.getLast?_eq_getElem?,List.length_map,show ps.length - 1 = n by omega,List.getElem?_map,List.getElem?_eq_getElem (by omega)];rfl
 rw [if_pos (Or.inr (Or.inr (by rw [e];intro hh;refine h ?_;have h2:=Option.some.inj hh;rw [← mk_data ps[n],h2])))]
theorem goKw_go (ps : List ByteArray) (n : Nat) (hl : ps.length = n + 1) (h1 : 1 ≤ n) (h2 : n ≤ 10) (h : ps[n] = ⟨#[]⟩) :
  (Nm.goKw (ps.map (·.data.toList))).map (fun l=>(⟨l.toArray⟩ : ByteArray)) = if ((ps.take n).all fun p=>Nm.goodP p.data.toList) = true then ps.take n else []:=by
 unfold Nm.goKw
 have e : (ps.map (·.data.toList)).getLast? = some []:=by
  rw [List.getLast?_eq_getElem?,List.length_map,hl,Nat.add_sub_cancel,List.getElem?_map,List.getElem?_eq_getElem (by omega),h];rfl
 have ed : (ps.map (·.data.toList)).dropLast = (ps.take n).map (·.data.toList):=by
  rw [List.dropLast_eq_take,List.length_map,hl,Nat.add_sub_cancel,List.map_take]
 rw [if_neg (by rw [List.length_map,hl,e];simp;omega),ed,List.all_map]
 show List.map _ (if ((ps.take n).all (fun p=>Nm.goodP p.data.toList)) = true then _ else _) = _
 split
 ·rw [List.map_map]
  exact (List.map_congr_left (fun p _=>mk_data p)).trans (List.map_id _)
 ·rfl
theorem splitB_size (sep : ByteArray) (save : Nat) : ∀ (k : Nat) (s : ByteArray),∀ p ∈ Lib.splitB sep save k s,p.size ≤ s.size
 | 0,s,p,hp=>by rw [Lib.splitB_zero,List.mem_singleton] at hp;rw [hp];exact Nat.le_refl _
 | k + 1,s,p,hp=>by
  unfold Lib.splitB at hp
  split at hp
  ·rw [List.mem_singleton] at hp;rw [hp];exact Nat.le_refl _
  ·rcases List.mem_cons.1 hp with e | e
   ·rw [e,ByteArray.size_extract];omega
   ·have:=splitB_size sep save k _ p e
    rw [ByteArray.size_extract] at this;omega
theorem name_keywords.calls (a0 : ByteArray) (r : List ByteArray) (w : World) (h : name_keywords.f a0 = some r) :
  Calls Tryz.prog 146 #[.string a0] w fun e w'=>∃ v0_ : Value,e = .returned (v0_) ∧ Kd.R Kd.string 9 w' w.heap.size (fun _=>True) v0_ r ∧ Below w.heap.size w w':=by
 unfold name_keywords.f at h
 have hs : a0.size < 4294967281:=by
  by_cases hs : a0.size < 4294967281
  ·exact hs
  ·rw [if_neg hs] at h;cases h
 rw [if_pos hs] at h
 have hr:=Option.some.inj h
 clear h
 have hle:=Lib.countB_le (⟨#[58]⟩ : ByteArray) (by decide) a0.size a0 (Nat.le_refl _)
 have hlen:=Lib.splitB_all (⟨#[58]⟩ : ByteArray) (by decide) 1 _ a0 rfl
 have hdat:=Lib.splitB_data (⟨#[58]⟩ : ByteArray) 1 (Lib.countB a0 ⟨#[58]⟩) a0
 have hk:=Nm.goKw_kwN a0.data.toList
 rw [show Lib.splitK [58] 1 (Lib.count a0.data.toList [58]) a0.data.toList = (Lib.splitB ⟨#[58]⟩ 1 (Lib.countB a0 ⟨#[58]⟩) a0).map (·.data.toList) from hdat.symm] at hk
 rw [← hk] at hr
 clear hk hdat
 have hsz : ∀ p ∈ Lib.splitB ⟨#[58]⟩ 1 (Lib.countB a0 ⟨#[58]⟩) a0,p.size ≤ 9223372036854775807:=by
  intro p hp
  have:=splitB_size (⟨#[58]⟩ : ByteArray) 1 (Lib.countB a0 ⟨#[58]⟩) a0 p hp
  omega
 have hc:=splitAfter_colon a0 w hs
 generalize Lib.countB a0 ⟨#[58]⟩ = n at *
 generalize Lib.splitB ⟨#[58]⟩ 1 n a0 = ps at *
 have HC:=As.mk hc
 have HR:=As.mk hr
 have HL:=As.mk hlen
 have HZ:=As.mk hsz
 have hnb : n ≤ 4294967281:=by omega
 clear hc hr hlen hsz hle
 have HB:=As.mk ((Below.refl w.heap.size w).alloc (Nat.le_refl _) (.cells (ps.map Value.string).toArray 9))
 by_cases h1 : n + 1 < 2 ∨ 11 < n + 1
 ·have hr2 : [] = r:=by rw [← HR.out,goKw_none ps n HL.out h1];rfl
  subst hr2
  clear HR
  rcases h1 with h1 | h1
  ·have h1b : decide ((n : Int) + 1 < 2) = true:=decide_eq_true (by omega)
   go_enter Tryz.func146,Tryz.ntmps146
   go_wp2_with (go_at_call 166;refine HC.out.mono ?_;rintro e w' ⟨rfl,rfl⟩)
   go_ret
   exact ⟨_,rfl,Kd.R_nil _ _ _ _ _,HB.out⟩
  ·have h1b : decide ((n : Int) + 1 < 2) = false:=decide_eq_false (by omega)
   have h2b : decide (11 < (n : Int) + 1) = true:=decide_eq_true (by omega)
   go_enter Tryz.func146,Tryz.ntmps146
   go_wp2_with (go_at_call 166;refine HC.out.mono ?_;rintro e w' ⟨rfl,rfl⟩)
   go_ret
   exact ⟨_,rfl,Kd.R_nil _ _ _ _ _,HB.out⟩
 ·have hn1 : 1 ≤ n:=by omega
  have hn2 : n ≤ 10:=by omega
  clear h1
  have hcell : (w.alloc (.cells (ps.map Value.string).toArray 9)).cell? ⟨w.heap.size,n,none⟩ = some (.string (ps[n]'(by rw [HL.out];omega))):=by
   rw [World.cell?_alloc_at _ _ _ _ (by simp [HL.out])]
   simp
  by_cases hq : ps[n]'(by rw [HL.out];omega) = ⟨#[]⟩
  ·rw [hq] at hcell
   have hr2:=HR.out
   rw [goKw_go ps n HL.out hn1 hn2 hq] at hr2
   clear HR hq
   have HR2:=As.mk hr2
   clear hr2
   have hblk:=heap_alloc_new w (.cells (ps.map Value.string).toArray 9)
   have hown:=own_front (w.alloc (.cells (ps.map Value.string).toArray 9)) w.heap.size w.heap.size n ps (Nat.le_refl _) hblk (by rw [HL.out];omega) (by rw [HL.out];omega)
   have HO:=As.mk hown
   clear hblk hown
   have htl : (ps.take n).length = n:=by rw [List.length_take,HL.out];omega
   have hcf:=containsFunc_bad (some ⟨w.heap.size,0,none⟩) (n + 1) (ps.take n) (w.alloc (.cells (ps.map Value.string).toArray 9)) (by rw [HL.out] at HO;have:=(Kd.R_reads' HO.out).2.2;exact this) (fun p hp=>HZ.out p (List.mem_of_mem_take hp)) (by omega)
   rw [htl] at hcf
   have HF:=As.mk hcf
   have HT:=As.mk htl
   clear hcf htl
   rw [HL.out] at HO
   generalize hall : ((ps.take n).all fun p=>Nm.goodP p.data.toList) = b at *
   clear hall
   cases b with
   | true =>
    have HF2:=As.mk (show Calls Tryz.prog 167 _ _ (fun e w'=>e = .returned (.bool false) ∧ Below _ _ w') from HF.out)
    clear HF
    go_enter Tryz.func146,Tryz.ntmps146
    go_wp2_with (first | (go_at_call 166;refine HC.out.mono ?_;rintro e w' ⟨rfl,rfl⟩) | (go_at_call 167;refine HF2.out.mono ?_;rintro e w' ⟨rfl,hb⟩;have HB2:=As.mk (bS HB.out hb);have HO2:=As.mk (Kd.R_below HO.out hb);clear hb))
    go_ret
    exact ⟨_,rfl,by rw [← HR2.out];exact HO2.out,HB2.out⟩
   | false =>
    have HF2:=As.mk (show Calls Tryz.prog 167 _ _ (fun e w'=>e = .returned (.bool true) ∧ Below _ _ w') from HF.out)
    clear HF
    go_enter Tryz.func146,Tryz.ntmps146
    go_wp2_with (first | (go_at_call 166;refine HC.out.mono ?_;rintro e w' ⟨rfl,rfl⟩) | (go_at_call 167;refine HF2.out.mono ?_;rintro e w' ⟨rfl,hb⟩;have HB2:=As.mk (bS HB.out hb);clear hb))
    go_ret
    exact ⟨_,rfl,by rw [← HR2.out];exact Kd.R_nil _ _ _ _ _,HB2.out⟩
  ·have hr2 : [] = r:=by rw [← HR.out,goKw_last ps n HL.out hq];rfl
   subst hr2
   clear HR
   generalize ps[n]'(by rw [HL.out];omega) = q at *
   have hne : q.toList.isEmpty = false:=by
    rw [Lib.toList_data]
    cases e : q.data.toList with
    | nil=>exact absurd (by rw [← mk_data q,e]) hq
    | cons a l=>rfl
   have hne2 : ¬ q.toList = []:=by intro e;rw [e] at hne;cases hne
   clear hq
   go_enter Tryz.func146,Tryz.ntmps146
   go_wp2_with (go_at_call 166;refine HC.out.mono ?_;rintro e w' ⟨rfl,rfl⟩)
   go_ret
   exact ⟨_,rfl,Kd.R_nil _ _ _ _ _,HB.out⟩
/-! ### name_Kind: function 113 -/
def name_Kind.f (a0 : ByteArray) : Option (Int):=(name_lower.f a0).bind fun t109=>(if t109 = true then (some 1) else ((name_binary.f a0).bind fun t110=>(if t110 = true then (some 2) else ((name_keywords.f a0).bind fun t111=>(if (t111.length : Int) > 0 then (some 3) else (some 0))))))
theorem name_Kind.calls (a0 : ByteArray) (r : Int) (w : World) (h : name_Kind.f a0 = some r) :
  Calls Tryz.prog 113 #[.string a0] w fun e w'=>e = .returned (.int .i64 r) ∧ Below w.heap.size w w':=by
 have HB:=As.mk (Below.refl w.heap.size w)
 have H : ((name_lower.f a0).bind fun t109=>(if t109 = true then (some 1) else ((name_binary.f a0).bind fun t110=>(if t110 = true then (some 2) else ((name_keywords.f a0).bind fun t111=>(if (t111.length : Int) > 0 then (some 3) else (some 0))))))) = some r:=h
 clear h
 replace H:=Option.bind_eq_some_iff.mp H
 obtain ⟨t109,A20,H⟩:=H
 replace H : (if t109 = true then (some 1) else ((name_binary.f a0).bind fun t110=>(if t110 = true then (some 2) else ((name_keywords.f a0).bind fun t111=>(if (t111.length : Int) > 0 then (some 3) else (some 0)))))) = some r:=H
 have A2:=As.mk A20
 clear A20
 by_cases c3 : t109 = true
 ·subst c3
  have H1 : (some 1) = some r:=by rw [if_pos rfl] at H;exact H
  clear H
  have H:=H1
  clear H1
  obtain rfl:=Option.some.inj H
  go_enter Tryz.func113,Tryz.ntmps113
  go_wp2_with (first | ((with_reducible refine gC (f:=144) rfl ?_);refine goesL_ (some 5) rfl rfl Tryz.func144 (by kernel_rfl) rfl #[.string a0] rfl (by (try simp only [List.map_toArray,List.map_cons,List.map_nil]);first | done | rfl | (simp only [List.length_drop,List.length_take];rfl)) ?_;(with_reducible refine (name_lower.calls a0 true _ A2.out).mono ?_);rintro e w4 ⟨rfl,hb⟩;refine ⟨_,rfl,?_⟩;have n0_:=As.mk (bS (by repeat (first | (with_reducible first | exact HB.out | apply bA | apply bN | apply bD) | exact HB.out)) hb);clear HB;have HB:=n0_;clear n0_;(try clear hb);(try clear hb2);(try clear hk);(try clear hi)))
  go_ret
  exact ⟨by first | rfl | (simp [eN,eS] <;> rfl) | (simp [*,eN,eS] <;> rfl),by repeat (first | (with_reducible first | exact HB.out | apply bA | apply bN | apply bD) | exact HB.out)⟩
 ·replace c3:=Bool.eq_false_iff.mpr c3
  subst c3
  have H1 : ((name_binary.f a0).bind fun t110=>(if t110 = true then (some 2) else ((name_keywords.f a0).bind fun t111=>(if (t111.length : Int) > 0 then (some 3) else (some 0))))) = some r:=by rw [if_neg (show ¬ (false = true) by decide)] at H;exact H
  clear H
  have H:=H1
  clear H1
  replace H:=Option.bind_eq_some_iff.mp H
  obtain ⟨t110,A50,H⟩:=H
  replace H : (if t110 = true then (some 2) else ((name_keywords.f a0).bind fun t111=>(if (t111.length : Int) > 0 then (some 3) else (some 0)))) = some r:=H
  have A5:=As.mk A50
  clear A50
  by_cases c6 : t110 = true
  ·subst c6
   have H1 : (some 2) = some r:=by rw [if_pos rfl] at H;exact H
   clear H
   have H:=H1
   clear H1
   obtain rfl:=Option.some.inj H
   go_enter Tryz.func113,Tryz.ntmps113
   go_wp2_with (first | ((with_reducible refine gC (f:=144) rfl ?_);refine goesL_ (some 5) rfl rfl Tryz.func144 (by kernel_rfl) rfl #[.string a0] rfl (by (try simp only [List.map_toArray,List.map_cons,List.map_nil]);first | done | rfl | (simp only [List.length_drop,List.length_take];rfl)) ?_;(with_reducible refine (name_lower.calls a0 false _ A2.out).mono ?_);rintro e w7 ⟨rfl,hb⟩;refine ⟨_,rfl,?_⟩;have n0_:=As.mk (bS (by repeat (first | (with_reducible first | exact HB.out | apply bA | apply bN | apply bD) | exact HB.out)) hb);clear HB;have HB:=n0_;clear n0_;(try clear hb);(try clear hb2);(try clear hk);(try clear hi)) | ((with_reducible refine gC (f:=145) rfl ?_);refine goesL_ (some 8) rfl rfl Tryz.func145 (by kernel_rfl) rfl #[.string a0] rfl (by (try simp only [List.map_toArray,List.map_cons,List.map_nil]);first | done | rfl | (simp only [List.length_drop,List.length_take];rfl)) ?_;(with_reducible refine (name_binary.calls a0 true _ A5.out).mono ?_);rintro e w8 ⟨rfl,hb⟩;refine ⟨_,rfl,?_⟩;have n0_:=As.mk (bS (by repeat (first | (with_reducible first | exact HB.out | apply bA | apply bN | apply bD) | exact HB.out)) hb);clear HB;have HB:=n0_;clear n0_;(try clear hb);(try clear hb2);(try clear hk);(try clear hi)))
   go_ret
   exact ⟨by first | rfl | (simp [eN,eS] <;> rfl) | (simp [*,eN,eS] <;> rfl),by repeat (first | (with_reducible first | exact HB.out | apply bA | apply bN | apply bD) | exact HB.out)⟩
  ·replace c6:=Bool.eq_false_iff.mpr c6
   subst c6
   have H1 : ((name_keywords.f a0).bind fun t111=>(if (t111.length : Int) > 0 then (some 3) else (some 0))) = some r:=by rw [if_neg (show ¬ (false = true) by decide)] at H;exact H
   clear H
   have H:=H1
   clear H1
   replace H:=Option.bind_eq_some_iff.mp H
   obtain ⟨t111,A90,H⟩:=H
   replace H : (if (t111.length : Int) > 0 then (some 3) else (some 0)) = some r:=H
   have A9:=As.mk A90
   clear A90
   by_cases c10 : (t111.length : Int) > 0
   ·rw [if_pos c10] at H
    have c10b0 : decide (0 < (t111.length : Int)) = true:=decide_eq_true c10
    have c10b1 : decide (0 < t111.length) = true:=decide_eq_true (by omega)
    clear c10
    obtain rfl:=Option.some.inj H
    go_enter Tryz.func113,Tryz.ntmps113
    go_wp2_with (first | ((with_reducible refine gC (f:=144) rfl ?_);refine goesL_ (some 5) rfl rfl Tryz.func144 (by kernel_rfl) rfl #[.string a0] rfl (by (try simp only [List.map_toArray,List.map_cons,List.map_nil]);first | done | rfl | (simp only [List.length_drop,List.length_take];rfl)) ?_;(with_reducible refine (name_lower.calls a0 false _ A2.out).mono ?_);rintro e w11 ⟨rfl,hb⟩;refine ⟨_,rfl,?_⟩;have n0_:=As.mk (bS (by repeat (first | (with_reducible first | exact HB.out | apply bA | apply bN | apply bD) | exact HB.out)) hb);clear HB;have HB:=n0_;clear n0_;(try clear hb);(try clear hb2);(try clear hk);(try clear hi)) | ((with_reducible refine gC (f:=145) rfl ?_);refine goesL_ (some 8) rfl rfl Tryz.func145 (by kernel_rfl) rfl #[.string a0] rfl (by (try simp only [List.map_toArray,List.map_cons,List.map_nil]);first | done | rfl | (simp only [List.length_drop,List.length_take];rfl)) ?_;(with_reducible refine (name_binary.calls a0 false _ A5.out).mono ?_);rintro e w12 ⟨rfl,hb⟩;refine ⟨_,rfl,?_⟩;have n0_:=As.mk (bS (by repeat (first | (with_reducible first | exact HB.out | apply bA | apply bN | apply bD) | exact HB.out)) hb);clear HB;have HB:=n0_;clear n0_;(try clear hb);(try clear hb2);(try clear hk);(try clear hi)) | ((with_reducible refine gC (f:=146) rfl ?_);refine goesL_ (some 11) rfl rfl Tryz.func146 (by kernel_rfl) rfl #[.string a0] rfl (by (try simp only [List.map_toArray,List.map_cons,List.map_nil]);first | done | rfl | (simp only [List.length_drop,List.length_take];rfl)) ?_;(with_reducible refine (name_keywords.calls a0 t111 _ A9.out).mono ?_);rintro e w13 ⟨v112,rfl,ho0,hb⟩;refine ⟨_,rfl,?_⟩;have n0_:=As.mk (Kd.R_lower ho0 (bZ (by repeat (first | (with_reducible first | exact HB.out | apply bA | apply bN | apply bD) | exact HB.out))));have n1_:=As.mk (bS (by repeat (first | (with_reducible first | exact HB.out | apply bA | apply bN | apply bD) | exact HB.out)) hb);clear HB;have HO113:=n0_;have HB:=n1_;clear n0_ n1_;(try clear hb);(try clear hb2);(try clear hk);(try clear hi);(try clear ho0);obtain ⟨Ao14,co14,eo14⟩:=Kd.R_slice HO113.out;subst eo14))
    go_ret
    exact ⟨by first | rfl | (simp [eN,eS] <;> rfl) | (simp [*,eN,eS] <;> rfl),by repeat (first | (with_reducible first | exact HB.out | apply bA | apply bN | apply bD) | exact HB.out)⟩
   ·rw [if_neg c10] at H
    have c10b0 : decide (0 < (t111.length : Int)) = false:=decide_eq_false c10
    have c10b1 : decide (0 < t111.length) = false:=decide_eq_false (by omega)
    clear c10
    obtain rfl:=Option.some.inj H
    go_enter Tryz.func113,Tryz.ntmps113
    go_wp2_with (first | ((with_reducible refine gC (f:=144) rfl ?_);refine goesL_ (some 5) rfl rfl Tryz.func144 (by kernel_rfl) rfl #[.string a0] rfl (by (try simp only [List.map_toArray,List.map_cons,List.map_nil]);first | done | rfl | (simp only [List.length_drop,List.length_take];rfl)) ?_;(with_reducible refine (name_lower.calls a0 false _ A2.out).mono ?_);rintro e w15 ⟨rfl,hb⟩;refine ⟨_,rfl,?_⟩;have n0_:=As.mk (bS (by repeat (first | (with_reducible first | exact HB.out | apply bA | apply bN | apply bD) | exact HB.out)) hb);clear HB;have HB:=n0_;clear n0_;(try clear hb);(try clear hb2);(try clear hk);(try clear hi)) | ((with_reducible refine gC (f:=145) rfl ?_);refine goesL_ (some 8) rfl rfl Tryz.func145 (by kernel_rfl) rfl #[.string a0] rfl (by (try simp only [List.map_toArray,List.map_cons,List.map_nil]);first | done | rfl | (simp only [List.length_drop,List.length_take];rfl)) ?_;(with_reducible refine (name_binary.calls a0 false _ A5.out).mono ?_);rintro e w16 ⟨rfl,hb⟩;refine ⟨_,rfl,?_⟩;have n0_:=As.mk (bS (by repeat (first | (with_reducible first | exact HB.out | apply bA | apply bN | apply bD) | exact HB.out)) hb);clear HB;have HB:=n0_;clear n0_;(try clear hb);(try clear hb2);(try clear hk);(try clear hi)) | ((with_reducible refine gC (f:=146) rfl ?_);refine goesL_ (some 11) rfl rfl Tryz.func146 (by kernel_rfl) rfl #[.string a0] rfl (by (try simp only [List.map_toArray,List.map_cons,List.map_nil]);first | done | rfl | (simp only [List.length_drop,List.length_take];rfl)) ?_;(with_reducible refine (name_keywords.calls a0 t111 _ A9.out).mono ?_);rintro e w17 ⟨v112,rfl,ho0,hb⟩;refine ⟨_,rfl,?_⟩;have n0_:=As.mk (Kd.R_lower ho0 (bZ (by repeat (first | (with_reducible first | exact HB.out | apply bA | apply bN | apply bD) | exact HB.out))));have n1_:=As.mk (bS (by repeat (first | (with_reducible first | exact HB.out | apply bA | apply bN | apply bD) | exact HB.out)) hb);clear HB;have HO113:=n0_;have HB:=n1_;clear n0_ n1_;(try clear hb);(try clear hb2);(try clear hk);(try clear hi);(try clear ho0);obtain ⟨Ao18,co18,eo18⟩:=Kd.R_slice HO113.out;subst eo18))
    go_ret
    exact ⟨by first | rfl | (simp [eN,eS] <;> rfl) | (simp [*,eN,eS] <;> rfl),by repeat (first | (with_reducible first | exact HB.out | apply bA | apply bN | apply bD) | exact HB.out)⟩
/-! ### sIs: function 170 -/
def sIs.l0 : Nat → List ByteArray → ByteArray → Int → Int → Option (Int)
 | 0,_,_,_,_=>none
 | k + 1,x0,x1,x7,x8=>if x8 < x7 then (if 0 ≤ x8 then (if x8 < (x0.length : Int) then (if x1.toList = (rdOf ByteArray.empty x0 x8).toList then (some x8) else (sIs.l0 k x0 x1 x7 (wrap64 (x8 + 1)))) else (none)) else (none)) else (some (-1))
def sIs.f (k : Nat) (l0 : List ByteArray) (a1 : ByteArray) : Option (Int):=sIs.l0 k l0 a1 (l0.length : Int) 0
theorem sIs.mono_l : ∀ k,(∀ y0 y1 y2 y3,LeO (sIs.l0 k y0 y1 y2 y3) (sIs.l0 (k + 1) y0 y1 y2 y3))
 | 0=>fun _ _ _ _ r h=>by simp [sIs.l0] at h
 | k + 1=>by
  have ih0:=sIs.mono_l k
  ·intro y0 y1 y2 y3
   unfold sIs.l0
   repeat' first
   | (with_reducible exact ih0 _ _ _ _)
   | (with_reducible exact LeO.refl _)
   | (with_reducible exact LeO.none _)
   | (with_reducible refine LeO.ite ?_ ?_)
   | (with_reducible refine LeO.bind ?_ (fun _=>?_))
   | exact ih0 _ _ _ _
   | exact LeO.none _
   | refine LeO.ite ?_ ?_
   | refine LeO.bind ?_ (fun _=>?_)
theorem sIs.mono : ∀ a0 a1 k,LeO (sIs.f k a0 a1) (sIs.f (k + 1) a0 a1):=by
 intro a0 a1 k
 have ih0:=sIs.mono_l k
 unfold sIs.f
 repeat' first
   | (with_reducible exact ih0 _ _ _ _)
   | (with_reducible exact LeO.refl _)
   | (with_reducible exact LeO.none _)
   | (with_reducible refine LeO.ite ?_ ?_)
   | (with_reducible refine LeO.bind ?_ (fun _=>?_))
   | exact ih0 _ _ _ _
   | exact LeO.none _
   | refine LeO.ite ?_ ?_
   | refine LeO.bind ?_ (fun _=>?_)
theorem sIs.calls (k : Nat) (A0 : Option Addr) (c0 : Nat) (l0 : List ByteArray) (a1 : ByteArray) (r : Int) (w : World) (hr0 : Kd.C Kd.string w A0 l0.length l0) (hc0 : l0.length ≤ c0) (h : sIs.f k l0 a1 = some r) :
  Calls Tryz.prog 170 #[.slice A0 l0.length c0,.string a1] w fun e w'=>e = .returned (.int .i64 r) ∧ Drawn0 w w':=by
 have HR0:=As.mk hr0
 have HC0:=As.mk hc0
 clear hr0 hc0
 have H : (sIs.l0 k l0 a1 (l0.length : Int) 0) = some r:=h
 clear h
 have H':=As.mk H
 clear H
 go_enter Tryz.func170,Tryz.ntmps170
 go_wp2
 go_loopg [8] k (fun kq v8 w'=>∃ (x8_1 : Int),v8 = .int .i64 x8_1 ∧ As (sIs.l0 kq l0 a1 (l0.length : Int) x8_1 = some r) ∧ As (kq ≤ k) ∧ Drawn0 w w')
 case atStart=>exact ⟨(0),(by first | rfl | (simp;done) | (simp [*];done)),H',⟨Nat.le_refl _⟩,by repeat (first | exact Drawn0.refl _ | apply Drawn0.step)⟩
 case round =>
  clear H'
  try clear c1
  try clear p2
  obtain ⟨x8_1,rfl,HA,HK1,⟨m1,rfl⟩⟩:=hrel
  cases gk with
  | zero=>exact absurd HA.out (by simp [sIs.l0])
  | succ k1 =>
   have H:=HA.out
   clear HA
   simp only [sIs.l0] at H
   by_cases c3 : x8_1 < (l0.length : Int)
   ·rw [if_pos c3] at H
    have c3b0 : decide (x8_1 < (l0.length : Int)) = true:=decide_eq_true c3
    clear c3
    by_cases c4 : 0 ≤ x8_1
    ·rw [if_pos c4] at H
     have c4b0 : decide (0 ≤ x8_1) = true:=decide_eq_true c4
     clear c4
     by_cases c5 : x8_1 < (l0.length : Int)
     ·rw [if_pos c5] at H
      have c5b0 : decide (x8_1 < (l0.length : Int)) = true:=decide_eq_true c5
      clear c5
      by_cases c6 : a1.toList = (rdOf ByteArray.empty l0 x8_1).toList
      ·rw [if_pos c6] at H
       have c6b0 : (a1.toList == (rdOf ByteArray.empty l0 x8_1).toList) = true:=beq_iff_eq.mpr c6
       have c6b1 : (a1.toList != (rdOf ByteArray.empty l0 x8_1).toList) = false:=bne_eq_false_iff_eq.mpr c6
       clear c6
       obtain rfl:=Option.some.inj H
       have p114 : 0 ≤ (x8_1 : Int):=of_decide_eq_true (by first | (with_reducible assumption) | assumption)
       have q114 : x8_1 < (l0.length : Int):=of_decide_eq_true (by first | (with_reducible assumption) | assumption)
       obtain ⟨ad114,e114,hx114_0⟩:=Kd.at_string HR0.out x8_1 p114 q114
       cases e114
       replace p114:=eq_true p114
       replace q114:=eq_true q114
       go_wp2
       go_ret
       exact ⟨by first | rfl | (simp;done) | (simp [*];done),by repeat (first | exact Drawn0.refl _ | apply Drawn0.step)⟩
      ·rw [if_neg c6] at H
       have c6b0 : (a1.toList == (rdOf ByteArray.empty l0 x8_1).toList) = false:=beq_eq_false_iff_ne.mpr c6
       have c6b1 : (a1.toList != (rdOf ByteArray.empty l0 x8_1).toList) = true:=bne_iff_ne.mpr c6
       have H':=As.mk H
       clear H
       have p114 : 0 ≤ (x8_1 : Int):=of_decide_eq_true (by first | (with_reducible assumption) | assumption)
       have q114 : x8_1 < (l0.length : Int):=of_decide_eq_true (by first | (with_reducible assumption) | assumption)
       obtain ⟨ad114,e114,hx114_0⟩:=Kd.at_string HR0.out x8_1 p114 q114
       cases e114
       replace p114:=eq_true p114
       replace q114:=eq_true q114
       go_wp2
       go_roundg k1
       case measure=>have:=HK1.out;omega
       case rel=>exact ⟨(wrap64 (x8_1 + 1)),(by first | rfl | (simp;done) | (simp [*];done)),H',⟨by have:=HK1.out;omega⟩,by repeat (first | exact Drawn0.refl _ | apply Drawn0.step)⟩
     ·rw [if_neg c5] at H
      exact absurd H (by simp)
    ·rw [if_neg c4] at H
     exact absurd H (by simp)
   ·rw [if_neg c3] at H
    have c3b0 : decide (x8_1 < (l0.length : Int)) = false:=decide_eq_false c3
    clear c3
    obtain rfl:=Option.some.inj H
    go_wp2
    go_ret
    exact ⟨by first | rfl | (simp;done) | (simp [*];done),by repeat (first | exact Drawn0.refl _ | apply Drawn0.step)⟩
/-! ### sCs: function 147 -/
def sCs.f (k : Nat) (l0 : List ByteArray) (a1 : ByteArray) : Option (Bool):=(sIs.f k l0 a1).bind fun t115=>(some (decide (t115 ≥ 0)))
theorem sCs.mono : ∀ a0 a1 k,LeO (sCs.f k a0 a1) (sCs.f (k + 1) a0 a1):=by
 intro a0 a1 k
 unfold sCs.f
 repeat' first
   | (with_reducible exact sIs.mono _ _ _)
   | (with_reducible exact LeO.refl _)
   | (with_reducible exact LeO.none _)
   | (with_reducible refine LeO.ite ?_ ?_)
   | (with_reducible refine LeO.bind ?_ (fun _=>?_))
   | exact sIs.mono _ _ _
   | exact LeO.none _
   | refine LeO.ite ?_ ?_
   | refine LeO.bind ?_ (fun _=>?_)
theorem sCs.calls (k : Nat) (A0 : Option Addr) (c0 : Nat) (l0 : List ByteArray) (a1 : ByteArray) (r : Bool) (w : World) (hr0 : Kd.C Kd.string w A0 l0.length l0) (hc0 : l0.length ≤ c0) (h : sCs.f k l0 a1 = some r) :
  Calls Tryz.prog 147 #[.slice A0 l0.length c0,.string a1] w fun e w'=>e = .returned (.bool r) ∧ Drawn0 w w':=by
 have HR0:=As.mk hr0
 have HC0:=As.mk hc0
 clear hr0 hc0
 have H : ((sIs.f k l0 a1).bind fun t115=>(some (decide (t115 ≥ 0)))) = some r:=h
 clear h
 replace H:=Option.bind_eq_some_iff.mp H
 obtain ⟨t115,A30,H⟩:=H
 replace H : (some (decide (t115 ≥ 0))) = some r:=H
 have A3:=As.mk A30
 clear A30
 obtain rfl:=Option.some.inj H
 go_enter Tryz.func147,Tryz.ntmps147
 go_wp2_with (first | ((with_reducible refine gC (f:=170) rfl ?_);refine goesL_ (some 7) rfl rfl Tryz.func170 (by kernel_rfl) rfl #[.slice A0 l0.length c0,.string a1] rfl (by (try simp only [List.map_toArray,List.map_cons,List.map_nil]);first | done | rfl | (simp only [List.length_drop,List.length_take];rfl)) ?_;(with_reducible refine (sIs.calls k _ _ l0 a1 t115 _ ?side1 ?side2 A3.out).mono ?_);(case side1=>repeat (first | exact HR0.out | (with_reducible refine Kd.C_alloc ?_ _) | (with_reducible refine Kd.C_drewN ?_ _) | (with_reducible refine Kd.C_drew ?_)));(case side2=>exact HC0.out);rintro e w' ⟨rfl,⟨nd,rfl⟩⟩;refine ⟨_,rfl,?_⟩))
 go_ret
 exact ⟨by first | rfl | (simp;done) | (simp [*];done),by repeat (first | exact Drawn0.refl _ | apply Drawn0.step)⟩
end Go.Proofs.YtmlebgikdegjjaaGreatDoor.PAll
