-- printed by xprint.py (this session's driver round the kit's print) out of the translation; Lean checks it
import Derived.Test.YtmlebgikdegjjaaDoorPAllx0
namespace Go.Proofs.YtmlebgikdegjjaaDoor.PAll
open Go.RowKit Go.Proofs.YtmlebgikdegjjaaDoorW.PrintWords Go.Proofs.YtmlebgikdegjjaaDoorW.PrintLast Go.Proofs.YtmlebgikdegjjaaDoorW.PrintMore
attribute [local go_sem] max2_int min2_int max_two min_two max_three min_three max_four min_four   -- for this text's walks alone
set_option linter.unusedVariables false
set_option linter.unusedSimpArgs false

/-! ### name_small: function 46 -/
def name_small.f (a0 : Int) : Option (Bool) := if a0 ≥ 97 then (some (decide (a0 ≤ 122))) else (some false)
set_option maxHeartbeats 8000000 in
set_option maxRecDepth 100000 in
theorem name_small.calls (a0 : Int) (r : Bool) (w : World) (h : name_small.f a0 = some r) :
    Calls Tryd.prog 46 #[.int .i32 a0] w fun e w' => e = .returned (.bool r) ∧ Drawn0 w w' := by
  have H : (if a0 ≥ 97 then (some (decide (a0 ≤ 122))) else (some false)) = some r := h
  clear h
  by_cases c2 : a0 ≥ 97
  · rw [if_pos c2] at H
    have c2b0 : decide (97 ≤ a0) = true := decide_eq_true c2
    clear c2
    obtain rfl := Option.some.inj H
    go_enter Tryd.func46, Tryd.ntmps46
    go_wp2
    go_ret
    exact ⟨by first | rfl | (simp; done) | (simp [*]; done), by repeat (first | exact Drawn0.refl _ | apply Drawn0.step)⟩
  · rw [if_neg c2] at H
    have c2b0 : decide (97 ≤ a0) = false := decide_eq_false c2
    clear c2
    obtain rfl := Option.some.inj H
    go_enter Tryd.func46, Tryd.ntmps46
    go_wp2
    go_ret
    exact ⟨by first | rfl | (simp; done) | (simp [*]; done), by repeat (first | exact Drawn0.refl _ | apply Drawn0.step)⟩

/-! ### name_large: function 39 -/
def name_large.f (a0 : Int) : Option (Bool) := if a0 ≥ 65 then (some (decide (a0 ≤ 90))) else (some false)
set_option maxHeartbeats 8000000 in
set_option maxRecDepth 100000 in
theorem name_large.calls (a0 : Int) (r : Bool) (w : World) (h : name_large.f a0 = some r) :
    Calls Tryd.prog 39 #[.int .i32 a0] w fun e w' => e = .returned (.bool r) ∧ Drawn0 w w' := by
  have H : (if a0 ≥ 65 then (some (decide (a0 ≤ 90))) else (some false)) = some r := h
  clear h
  by_cases c2 : a0 ≥ 65
  · rw [if_pos c2] at H
    have c2b0 : decide (65 ≤ a0) = true := decide_eq_true c2
    clear c2
    obtain rfl := Option.some.inj H
    go_enter Tryd.func39, Tryd.ntmps39
    go_wp2
    go_ret
    exact ⟨by first | rfl | (simp; done) | (simp [*]; done), by repeat (first | exact Drawn0.refl _ | apply Drawn0.step)⟩
  · rw [if_neg c2] at H
    have c2b0 : decide (65 ≤ a0) = false := decide_eq_false c2
    clear c2
    obtain rfl := Option.some.inj H
    go_enter Tryd.func39, Tryd.ntmps39
    go_wp2
    go_ret
    exact ⟨by first | rfl | (simp; done) | (simp [*]; done), by repeat (first | exact Drawn0.refl _ | apply Drawn0.step)⟩

/-! ### name_digit: function 47 -/
def name_digit.f (a0 : Int) : Option (Bool) := if a0 ≥ 48 then (some (decide (a0 ≤ 57))) else (some false)
set_option maxHeartbeats 8000000 in
set_option maxRecDepth 100000 in
theorem name_digit.calls (a0 : Int) (r : Bool) (w : World) (h : name_digit.f a0 = some r) :
    Calls Tryd.prog 47 #[.int .i32 a0] w fun e w' => e = .returned (.bool r) ∧ Drawn0 w w' := by
  have H : (if a0 ≥ 48 then (some (decide (a0 ≤ 57))) else (some false)) = some r := h
  clear h
  by_cases c2 : a0 ≥ 48
  · rw [if_pos c2] at H
    have c2b0 : decide (48 ≤ a0) = true := decide_eq_true c2
    clear c2
    obtain rfl := Option.some.inj H
    go_enter Tryd.func47, Tryd.ntmps47
    go_wp2
    go_ret
    exact ⟨by first | rfl | (simp; done) | (simp [*]; done), by repeat (first | exact Drawn0.refl _ | apply Drawn0.step)⟩
  · rw [if_neg c2] at H
    have c2b0 : decide (48 ≤ a0) = false := decide_eq_false c2
    clear c2
    obtain rfl := Option.some.inj H
    go_enter Tryd.func47, Tryd.ntmps47
    go_wp2
    go_ret
    exact ⟨by first | rfl | (simp; done) | (simp [*]; done), by repeat (first | exact Drawn0.refl _ | apply Drawn0.step)⟩

/-! ### name_Is: function 38 -/
def name_Is.f (a0 : ByteArray) : Option Bool := some (Nm.isN a0.data.toList)
theorem below_iter (w : World) (s : ByteArray) (p : Nat) : Below w.heap.size w (w.iter s p) := (Below.refl _ _).alloc (Nat.le_refl _) _
theorem small_at (c : Int) (b : Bool) (h : (decide (97 ≤ c) && decide (c ≤ 122)) = b) : name_small.f c = some b := by
  subst h; unfold name_small.f; by_cases h : 97 ≤ c <;> simp [h]
theorem large_at (c : Int) (b : Bool) (h : (decide (65 ≤ c) && decide (c ≤ 90)) = b) : name_large.f c = some b := by
  subst h; unfold name_large.f; by_cases h : 65 ≤ c <;> simp [h]
theorem digit_at (c : Int) (b : Bool) (h : (decide (48 ≤ c) && decide (c ≤ 57)) = b) : name_digit.f c = some b := by
  subst h; unfold name_digit.f; by_cases h : 48 ≤ c <;> simp [h]
/-- What one round comes to: the rune that stands there is let by just as its first byte is. -/
theorem dec_class (s : ByteArray) (pos : Nat) (hp : pos < s.size) : ∃ (c : Int) (wd : Nat), (Utf8.decode s pos).1 = c ∧ (Utf8.decode s pos).2 = wd ∧ 1 ≤ wd ∧
    (decide (97 ≤ c) && decide (c ≤ 122)) = Nm.smB s[pos] ∧ (decide (65 ≤ c) && decide (c ≤ 90)) = Nm.lgB s[pos] ∧ (decide (48 ≤ c) && decide (c ≤ 57)) = Nm.dgB s[pos] ∧ ((Nm.smB s[pos] || Nm.lgB s[pos] || Nm.dgB s[pos]) = true → wd = 1) := by
  by_cases ha : (s[pos]'hp).toNat < 128
  · rw [decode_ascii s pos hp ha]
    refine ⟨_, _, rfl, rfl, by omega, ?_, ?_, ?_, fun _ => rfl⟩
    · unfold Nm.smB; rw [Bool.eq_iff_iff]; simp; omega
    · unfold Nm.lgB; rw [Bool.eq_iff_iff]; simp; omega
    · unfold Nm.dgB; rw [Bool.eq_iff_iff]; simp; omega
  · have hh := decode_high s pos hp (by omega)
    have h1 : Nm.smB s[pos] = false := by unfold Nm.smB; simp; omega
    have h2 : Nm.lgB s[pos] = false := by unfold Nm.lgB; simp; omega
    have h3 : Nm.dgB s[pos] = false := by unfold Nm.dgB; simp; omega
    rw [h1, h2, h3]
    refine ⟨_, _, rfl, rfl, hh.2, ?_, ?_, ?_, fun h => by cases h⟩ <;> (rw [Bool.eq_false_iff]; simp; have := hh.1; omega)
theorem next_anyD {P : Program} (w : World) (s : ByteArray) (pos nd : Nat) (ty : TypeId) (h : pos < s.size) (c : Int) (wd : Nat) (e1 : (Utf8.decode s pos).1 = c) (e2 : (Utf8.decode s pos).2 = wd) :
    (Instr.next (.pointer (some ⟨w.heap.size, 0, none⟩)) true ty).run P ((w.iter s pos).drewN nd) = .ok (.tuple #[.bool true, .int .i64 pos, .int .i32 c]) ((w.iter s (pos + wd)).drewN nd) := by
  subst e1 e2
  have hx := World.iter_set w s pos (pos + (Utf8.decode s pos).2)
  simp only [Instr.next, getObj, setObj, Sem.run_bind, Sem.run, World.heap_drewN, World.iter_heap, Result.andThen, h, if_true]
  simp [goInt]
  exact congrArg (·.drewN nd) hx
theorem next_endD {P : Program} (w : World) (s : ByteArray) (pos nd : Nat) (ty : TypeId) (h : ¬ pos < s.size) :
    (Instr.next (.pointer (some ⟨w.heap.size, 0, none⟩)) true ty).run P ((w.iter s pos).drewN nd) = .ok (.tuple #[.bool false]) ((w.iter s pos).drewN nd) := by
  simp [Instr.next, getObj, Sem.run, World.iter_heap, h]
theorem iterPosD (w : World) (s : ByteArray) (pos nd : Nat) : ((w.iter s pos).drewN nd).iterPos w.heap.size = pos := World.iterPos_iter w s pos
set_option maxHeartbeats 4000000 in
set_option maxRecDepth 100000 in
theorem name_Is.calls (a0 : ByteArray) (r : Bool) (w : World) (h : name_Is.f a0 = some r) :
    Calls Tryd.prog 38 #[.string a0] w fun e w' => e = .returned (.bool r) ∧ Below w.heap.size w w' := by
  obtain rfl : Nm.isN a0.data.toList = r := Option.some.inj h
  clear h
  go_enter Tryd.func38, Tryd.ntmps38
  go_wp2
  go_loopw [2] (fun v wr => ∃ (pos nd : Nat), v = .bool false ∧ wr = (w.iter a0 pos).drewN nd ∧ pos ≤ a0.size ∧ Nm.letBy a0 pos) (fun _ wr => a0.size - wr.iterPos w.heap.size)
  case atStart => exact ⟨0, 0, rfl, rfl, Nat.zero_le _, Nm.letBy_zero _⟩
  case round =>
    obtain ⟨pos, nd, rfl, rfl, hle, hlet⟩ := hrel
    have HL := Aside0.mk hlet
    clear hlet
    by_cases hp : pos < a0.size
    · obtain ⟨c, wd, e1, e2, hw1, hsm, hlg, hdg, hwd⟩ := dec_class a0 pos hp
      have hnx : ∀ ty, (Instr.next (.pointer (some ⟨w.heap.size, 0, none⟩)) true ty).run Tryd.prog ((w.iter a0 pos).drewN nd) = .ok (.tuple #[.bool true, .int .i64 pos, .int .i32 c]) ((w.iter a0 (pos + wd)).drewN nd) := fun ty => next_anyD w a0 pos nd ty hp c wd e1 e2
      clear e1 e2
      have AS := Aside0.mk (small_at c _ hsm)
      have AL := Aside0.mk (large_at c _ hlg)
      have AD := Aside0.mk (digit_at c _ hdg)
      clear hsm hlg hdg
      have HC := Aside0.mk (show ∀ b, (Nm.smB a0[pos] || Nm.lgB a0[pos] || (decide (0 < pos) && Nm.dgB a0[pos])) = b → (Nm.smB a0[pos] || Nm.lgB a0[pos] || (decide (0 < pos) && Nm.dgB a0[pos])) = b from fun _ h => h)
      have HW := Aside0.mk hwd
      clear hwd
      have HP := Aside0.mk hp
      have hq0 : pos = 0 ∨ 0 < pos := by omega
      generalize e1 : Nm.smB a0[pos] = b1 at AS HC HW
      generalize e2 : Nm.lgB a0[pos] = b2 at AL HC HW
      generalize e3 : Nm.dgB a0[pos] = b3 at AD HC HW
      have HE := Aside0.mk (show (Nm.smB a0[pos] || Nm.lgB a0[pos] || (decide (0 < pos) && Nm.dgB a0[pos])) = (b1 || b2 || (decide (0 < pos) && b3)) by rw [e1, e2, e3])
      clear e1 e2 e3 HC
      cases b1 with
      | true =>
        have hw : wd = 1 := HW.out rfl
        subst hw
        clear HW AL AD
        go_wp2_with (go_at_call 46; (with_reducible refine (name_small.calls c true _ AS.out).mono ?_); rintro e w' ⟨rfl, ⟨nd2, rfl⟩⟩)
        go_roundw
        case rel => exact ⟨pos + 1, _, rfl, rfl, by omega, Nm.letBy_step HL.out HP.out (HE.out.trans rfl)⟩
        case measure => simp only [iterPosD]; omega
      | false =>
        cases b2 with
        | true =>
          have hw : wd = 1 := HW.out rfl
          subst hw
          clear HW AD
          go_wp2_with (first | (go_at_call 46; (with_reducible refine (name_small.calls c false _ AS.out).mono ?_); rintro e w' ⟨rfl, ⟨nd2, rfl⟩⟩) | (go_at_call 39; (with_reducible refine (name_large.calls c true _ AL.out).mono ?_); rintro e w' ⟨rfl, ⟨nd3, rfl⟩⟩))
          go_roundw
          case rel => exact ⟨pos + 1, _, rfl, rfl, by omega, Nm.letBy_step HL.out HP.out (HE.out.trans rfl)⟩
          case measure => simp only [iterPosD]; omega
        | false =>
          rcases hq0 with rfl | h0
          · clear HW AD
            go_wp2_with (first | (go_at_call 46; (with_reducible refine (name_small.calls c false _ AS.out).mono ?_); rintro e w' ⟨rfl, ⟨nd2, rfl⟩⟩) | (go_at_call 39; (with_reducible refine (name_large.calls c false _ AL.out).mono ?_); rintro e w' ⟨rfl, ⟨nd3, rfl⟩⟩))
            go_ret
            exact ⟨by rw [Nm.isN_not HP.out (HE.out.trans rfl)]; rfl, by repeat (first | exact below_iter _ _ _ | apply pw_below_drewN | apply below_drew1)⟩
          · have hz : ((pos : Int) == 0) = false := beq_eq_false_iff_ne.2 (by omega)
            cases b3 with
            | true =>
              have hw : wd = 1 := HW.out rfl
              subst hw
              clear HW
              go_wp2_with (first | (go_at_call 46; (with_reducible refine (name_small.calls c false _ AS.out).mono ?_); rintro e w' ⟨rfl, ⟨nd2, rfl⟩⟩) | (go_at_call 39; (with_reducible refine (name_large.calls c false _ AL.out).mono ?_); rintro e w' ⟨rfl, ⟨nd3, rfl⟩⟩) | (go_at_call 47; (with_reducible refine (name_digit.calls c true _ AD.out).mono ?_); rintro e w' ⟨rfl, ⟨nd4, rfl⟩⟩))
              go_roundw
              case rel => exact ⟨pos + 1, _, rfl, rfl, by omega, Nm.letBy_step HL.out HP.out (HE.out.trans (by simp; omega))⟩
              case measure => simp only [iterPosD]; omega
            | false =>
              clear HW
              go_wp2_with (first | (go_at_call 46; (with_reducible refine (name_small.calls c false _ AS.out).mono ?_); rintro e w' ⟨rfl, ⟨nd2, rfl⟩⟩) | (go_at_call 39; (with_reducible refine (name_large.calls c false _ AL.out).mono ?_); rintro e w' ⟨rfl, ⟨nd3, rfl⟩⟩) | (go_at_call 47; (with_reducible refine (name_digit.calls c false _ AD.out).mono ?_); rintro e w' ⟨rfl, ⟨nd4, rfl⟩⟩))
              go_ret
              exact ⟨by rw [Nm.isN_not HP.out (HE.out.trans (by simp))]; rfl, by repeat (first | exact below_iter _ _ _ | apply pw_below_drewN | apply below_drew1)⟩
    · have hpe : pos = a0.size := by omega
      subst hpe
      have hnx : ∀ ty, (Instr.next (.pointer (some ⟨w.heap.size, 0, none⟩)) true ty).run Tryd.prog ((w.iter a0 a0.size).drewN nd) = .ok (.tuple #[.bool false]) ((w.iter a0 a0.size).drewN nd) := fun ty => next_endD w a0 a0.size nd ty hp
      have HN := Aside0.mk (Nm.isN_of HL.out)
      clear HL
      by_cases h1 : (a0.size : Int) ≥ 1
      · have h1b : decide ((1 : Int) ≤ (a0.size : Int)) = true := decide_eq_true h1
        go_wp2_with fail
        go_ret
        exact ⟨by rw [HN.out]; simp [h1], by repeat (first | exact below_iter _ _ _ | apply pw_below_drewN | apply below_drew1)⟩
      · have h1b : decide ((1 : Int) ≤ (a0.size : Int)) = false := decide_eq_false h1
        go_wp2_with fail
        go_ret
        exact ⟨by rw [HN.out, show decide ((a0.size : Int) ≥ 1) = false from h1b]; rfl, by repeat (first | exact below_iter _ _ _ | apply pw_below_drewN | apply below_drew1)⟩


/-! ### name_Class: function 33 -/
def name_Class.f (a0 : ByteArray) : Option (Bool) := (name_Is.f a0).bind fun t101 => (if t101 = true then (if 0 < (a0.size : Int) then ((name_large.f (wrap32 (bt a0 0))).bind fun t102 => (some t102)) else (none)) else (some false))
set_option maxHeartbeats 8000000 in
set_option maxRecDepth 100000 in
theorem name_Class.calls (a0 : ByteArray) (r : Bool) (w : World) (h : name_Class.f a0 = some r) :
    Calls Tryd.prog 33 #[.string a0] w fun e w' => e = .returned (.bool r) ∧ Below w.heap.size w w' := by
  have HB := Aside0.mk (Below.refl w.heap.size w)
  have H : ((name_Is.f a0).bind fun t101 => (if t101 = true then (if 0 < (a0.size : Int) then ((name_large.f (wrap32 (bt a0 0))).bind fun t102 => (some t102)) else (none)) else (some false))) = some r := h
  clear h
  replace H := Option.bind_eq_some_iff.mp H
  obtain ⟨t101, A20, H⟩ := H
  replace H : (if t101 = true then (if 0 < (a0.size : Int) then ((name_large.f (wrap32 (bt a0 0))).bind fun t102 => (some t102)) else (none)) else (some false)) = some r := H
  have A2 := Aside0.mk A20
  clear A20
  by_cases c3 : t101 = true
  · subst c3
    have H1 : (if 0 < (a0.size : Int) then ((name_large.f (wrap32 (bt a0 0))).bind fun t102 => (some t102)) else (none)) = some r := by rw [if_pos rfl] at H; exact H
    clear H
    have H := H1
    clear H1
    by_cases c4 : 0 < (a0.size : Int)
    · rw [if_pos c4] at H
      have c4b0 : decide (0 < (a0.size : Int)) = true := decide_eq_true c4
      have c4b1 : decide (0 < a0.size) = true := decide_eq_true (by omega)
      clear c4
      replace H := Option.bind_eq_some_iff.mp H
      obtain ⟨t102, A60, H⟩ := H
      replace H : (some t102) = some r := H
      have A6 := Aside0.mk A60
      clear A60
      obtain rfl := Option.some.inj H
      go_enter Tryd.func33, Tryd.ntmps33
      go_wp2_with (first | ((with_reducible refine gate_callee (f := 38) rfl ?_); refine goesL_ (some 4) rfl rfl Tryd.func38 (by kernel_rfl) rfl #[.string a0] rfl (by (try simp only [List.map_toArray, List.map_cons, List.map_nil]); first | done | rfl | (simp only [List.length_drop, List.length_take]; rfl)) ?_; (with_reducible refine (name_Is.calls a0 true _ A2.out).mono ?_); rintro e w7 ⟨rfl, hb⟩; refine ⟨_, rfl, ?_⟩; have n0_ := Aside0.mk (below_step (by repeat (first | (with_reducible first | exact HB.out | apply below_alloc | apply pw_below_drewN | apply below_drew1) | exact HB.out)) hb); clear HB; have HB := n0_; clear n0_; (try clear hb); (try clear hb2); (try clear hk); (try clear hi); have p5 : 0 ≤ (0 : Int) := (by omega); have q5 : 0 < a0.size := (by have : (0 : Int) < (a0.size : Int) := of_decide_eq_true (by first | (with_reducible assumption) | assumption); omega); have hx5 : ∀ h : 0 < a0.size, ((a0[0]'h).toNat : Int) = bt a0 0 := bt_at a0 0; clear p5; have qi5 : (0 < (a0.size : Int)) = True := eq_true (of_decide_eq_true (by first | (with_reducible assumption) | assumption)); replace q5 := eq_true q5) | (go_at_call 39; (with_reducible refine (name_large.calls (wrap32 (bt a0 0)) t102 _ A6.out).mono ?_); rintro e w' ⟨rfl, ⟨nd, rfl⟩⟩))
      go_ret
      exact ⟨by first | rfl | (simp [errW_none, errW_some] <;> rfl) | (simp [*, errW_none, errW_some] <;> rfl), by repeat (first | (with_reducible first | exact HB.out | apply below_alloc | apply pw_below_drewN | apply below_drew1) | exact HB.out)⟩
    · rw [if_neg c4] at H
      exact absurd H (by simp)
  · replace c3 := Bool.eq_false_iff.mpr c3
    subst c3
    have H1 : (some false) = some r := by rw [if_neg (show ¬ (false = true) by decide)] at H; exact H
    clear H
    have H := H1
    clear H1
    obtain rfl := Option.some.inj H
    go_enter Tryd.func33, Tryd.ntmps33
    go_wp2_with (first | ((with_reducible refine gate_callee (f := 38) rfl ?_); refine goesL_ (some 4) rfl rfl Tryd.func38 (by kernel_rfl) rfl #[.string a0] rfl (by (try simp only [List.map_toArray, List.map_cons, List.map_nil]); first | done | rfl | (simp only [List.length_drop, List.length_take]; rfl)) ?_; (with_reducible refine (name_Is.calls a0 false _ A2.out).mono ?_); rintro e w8 ⟨rfl, hb⟩; refine ⟨_, rfl, ?_⟩; have n0_ := Aside0.mk (below_step (by repeat (first | (with_reducible first | exact HB.out | apply below_alloc | apply pw_below_drewN | apply below_drew1) | exact HB.out)) hb); clear HB; have HB := n0_; clear n0_; (try clear hb); (try clear hb2); (try clear hk); (try clear hi)))
    go_ret
    exact ⟨by first | rfl | (simp [errW_none, errW_some] <;> rfl) | (simp [*, errW_none, errW_some] <;> rfl), by repeat (first | (with_reducible first | exact HB.out | apply below_alloc | apply pw_below_drewN | apply below_drew1) | exact HB.out)⟩

/-! ### slices_Index_string_string: function 48 -/
def slices_Index_string_string.l0 : Nat → List ByteArray → ByteArray → Int → Int → Option (Int)
  | 0, _, _, _, _ => none
  | k + 1, x0, x1, x7, x8 => if x8 < x7 then (if 0 ≤ x8 then (if x8 < (x0.length : Int) then (if x1.toList = (rdOf ByteArray.empty x0 x8).toList then (some x8) else (slices_Index_string_string.l0 k x0 x1 x7 (wrap64 (x8 + 1)))) else (none)) else (none)) else (some (-1))
def slices_Index_string_string.f (k : Nat) (l0 : List ByteArray) (a1 : ByteArray) : Option (Int) := slices_Index_string_string.l0 k l0 a1 (l0.length : Int) 0
theorem slices_Index_string_string.mono_l : ∀ k, (∀ y0 y1 y2 y3, LeO (slices_Index_string_string.l0 k y0 y1 y2 y3) (slices_Index_string_string.l0 (k + 1) y0 y1 y2 y3))
  | 0 => fun _ _ _ _ r h => by simp [slices_Index_string_string.l0] at h
  | k + 1 => by
    have ih0 := slices_Index_string_string.mono_l k
    · intro y0 y1 y2 y3
      unfold slices_Index_string_string.l0
      repeat' first
      | (with_reducible exact ih0 _ _ _ _)
      | (with_reducible exact LeO.refl _)
      | (with_reducible exact LeO.none _)
      | (with_reducible refine LeO.ite ?_ ?_)
      | (with_reducible refine LeO.bind ?_ (fun _ => ?_))
      | exact ih0 _ _ _ _
      | exact LeO.none _
      | refine LeO.ite ?_ ?_
      | refine LeO.bind ?_ (fun _ => ?_)
theorem slices_Index_string_string.mono : ∀ a0 a1 k, LeO (slices_Index_string_string.f k a0 a1) (slices_Index_string_string.f (k + 1) a0 a1) := by
  intro a0 a1 k
  have ih0 := slices_Index_string_string.mono_l k
  unfold slices_Index_string_string.f
  repeat' first
      | (with_reducible exact ih0 _ _ _ _)
      | (with_reducible exact LeO.refl _)
      | (with_reducible exact LeO.none _)
      | (with_reducible refine LeO.ite ?_ ?_)
      | (with_reducible refine LeO.bind ?_ (fun _ => ?_))
      | exact ih0 _ _ _ _
      | exact LeO.none _
      | refine LeO.ite ?_ ?_
      | refine LeO.bind ?_ (fun _ => ?_)
set_option maxHeartbeats 8000000 in
set_option maxRecDepth 100000 in
theorem slices_Index_string_string.calls (k : Nat) (A0 : Option Addr) (c0 : Nat) (l0 : List ByteArray) (a1 : ByteArray) (r : Int) (w : World) (hr0 : Kd.C Kd.string w A0 l0.length l0) (hc0 : l0.length ≤ c0) (h : slices_Index_string_string.f k l0 a1 = some r) :
    Calls Tryd.prog 48 #[.slice A0 l0.length c0, .string a1] w fun e w' => e = .returned (.int .i64 r) ∧ Drawn0 w w' := by
  have HR0 := Aside0.mk hr0
  have HC0 := Aside0.mk hc0
  clear hr0 hc0
  have H : (slices_Index_string_string.l0 k l0 a1 (l0.length : Int) 0) = some r := h
  clear h
  have H' := Aside0.mk H
  clear H
  go_enter Tryd.func48, Tryd.ntmps48
  go_wp2
  go_loopg [8] k (fun kq v8 w' => ∃ (x8_1 : Int), v8 = .int .i64 x8_1 ∧ Aside0 (slices_Index_string_string.l0 kq l0 a1 (l0.length : Int) x8_1 = some r) ∧ Aside0 (kq ≤ k) ∧ Drawn0 w w')
  case atStart => exact ⟨(0), (by first | rfl | (simp; done) | (simp [*]; done)), H', ⟨Nat.le_refl _⟩, by repeat (first | exact Drawn0.refl _ | apply Drawn0.step)⟩
  case round =>
    clear H'
    try clear p2
    obtain ⟨x8_1, rfl, HA, HK1, ⟨m1, rfl⟩⟩ := hrel
    cases gk with
    | zero => exact absurd HA.out (by simp [slices_Index_string_string.l0])
    | succ k1 =>
      have H := HA.out
      clear HA
      simp only [slices_Index_string_string.l0] at H
      by_cases c3 : x8_1 < (l0.length : Int)
      · rw [if_pos c3] at H
        have c3b0 : decide (x8_1 < (l0.length : Int)) = true := decide_eq_true c3
        clear c3
        by_cases c4 : 0 ≤ x8_1
        · rw [if_pos c4] at H
          have c4b0 : decide (0 ≤ x8_1) = true := decide_eq_true c4
          clear c4
          by_cases c5 : x8_1 < (l0.length : Int)
          · rw [if_pos c5] at H
            have c5b0 : decide (x8_1 < (l0.length : Int)) = true := decide_eq_true c5
            clear c5
            by_cases c6 : a1.toList = (rdOf ByteArray.empty l0 x8_1).toList
            · rw [if_pos c6] at H
              have c6b0 : (a1.toList == (rdOf ByteArray.empty l0 x8_1).toList) = true := beq_iff_eq.mpr c6
              have c6b1 : (a1.toList != (rdOf ByteArray.empty l0 x8_1).toList) = false := bne_eq_false_iff_eq.mpr c6
              clear c6
              obtain rfl := Option.some.inj H
              have p103 : 0 ≤ (x8_1 : Int) := of_decide_eq_true (by first | (with_reducible assumption) | assumption)
              have q103 : x8_1 < (l0.length : Int) := of_decide_eq_true (by first | (with_reducible assumption) | assumption)
              obtain ⟨ad103, e103, hx103_0⟩ := Kd.at_string HR0.out x8_1 p103 q103
              cases e103
              replace p103 := eq_true p103
              replace q103 := eq_true q103
              go_wp2
              go_ret
              exact ⟨by first | rfl | (simp; done) | (simp [*]; done), by repeat (first | exact Drawn0.refl _ | apply Drawn0.step)⟩
            · rw [if_neg c6] at H
              have c6b0 : (a1.toList == (rdOf ByteArray.empty l0 x8_1).toList) = false := beq_eq_false_iff_ne.mpr c6
              have c6b1 : (a1.toList != (rdOf ByteArray.empty l0 x8_1).toList) = true := bne_iff_ne.mpr c6
              have H' := Aside0.mk H
              clear H
              have p103 : 0 ≤ (x8_1 : Int) := of_decide_eq_true (by first | (with_reducible assumption) | assumption)
              have q103 : x8_1 < (l0.length : Int) := of_decide_eq_true (by first | (with_reducible assumption) | assumption)
              obtain ⟨ad103, e103, hx103_0⟩ := Kd.at_string HR0.out x8_1 p103 q103
              cases e103
              replace p103 := eq_true p103
              replace q103 := eq_true q103
              go_wp2
              go_roundg k1
              case measure => have := HK1.out; omega
              case rel => exact ⟨(wrap64 (x8_1 + 1)), (by first | rfl | (simp; done) | (simp [*]; done)), H', ⟨by have := HK1.out; omega⟩, by repeat (first | exact Drawn0.refl _ | apply Drawn0.step)⟩
          · rw [if_neg c5] at H
            exact absurd H (by simp)
        · rw [if_neg c4] at H
          exact absurd H (by simp)
      · rw [if_neg c3] at H
        have c3b0 : decide (x8_1 < (l0.length : Int)) = false := decide_eq_false c3
        clear c3
        obtain rfl := Option.some.inj H
        go_wp2
        go_ret
        exact ⟨by first | rfl | (simp; done) | (simp [*]; done), by repeat (first | exact Drawn0.refl _ | apply Drawn0.step)⟩

/-! ### slices_Contains_string_string: function 40 -/
def slices_Contains_string_string.f (k : Nat) (l0 : List ByteArray) (a1 : ByteArray) : Option (Bool) := (slices_Index_string_string.f k l0 a1).bind fun t104 => (some (decide (t104 ≥ 0)))
theorem slices_Contains_string_string.mono : ∀ a0 a1 k, LeO (slices_Contains_string_string.f k a0 a1) (slices_Contains_string_string.f (k + 1) a0 a1) := by
  intro a0 a1 k
  unfold slices_Contains_string_string.f
  repeat' first
      | (with_reducible exact slices_Index_string_string.mono _ _ _)
      | (with_reducible exact LeO.refl _)
      | (with_reducible exact LeO.none _)
      | (with_reducible refine LeO.ite ?_ ?_)
      | (with_reducible refine LeO.bind ?_ (fun _ => ?_))
      | exact slices_Index_string_string.mono _ _ _
      | exact LeO.none _
      | refine LeO.ite ?_ ?_
      | refine LeO.bind ?_ (fun _ => ?_)
set_option maxHeartbeats 8000000 in
set_option maxRecDepth 100000 in
theorem slices_Contains_string_string.calls (k : Nat) (A0 : Option Addr) (c0 : Nat) (l0 : List ByteArray) (a1 : ByteArray) (r : Bool) (w : World) (hr0 : Kd.C Kd.string w A0 l0.length l0) (hc0 : l0.length ≤ c0) (h : slices_Contains_string_string.f k l0 a1 = some r) :
    Calls Tryd.prog 40 #[.slice A0 l0.length c0, .string a1] w fun e w' => e = .returned (.bool r) ∧ Drawn0 w w' := by
  have HR0 := Aside0.mk hr0
  have HC0 := Aside0.mk hc0
  clear hr0 hc0
  have H : ((slices_Index_string_string.f k l0 a1).bind fun t104 => (some (decide (t104 ≥ 0)))) = some r := h
  clear h
  replace H := Option.bind_eq_some_iff.mp H
  obtain ⟨t104, A30, H⟩ := H
  replace H : (some (decide (t104 ≥ 0))) = some r := H
  have A3 := Aside0.mk A30
  clear A30
  obtain rfl := Option.some.inj H
  go_enter Tryd.func40, Tryd.ntmps40
  go_wp2_with (first | ((with_reducible refine gate_callee (f := 48) rfl ?_); refine goesL_ (some 7) rfl rfl Tryd.func48 (by kernel_rfl) rfl #[.slice A0 l0.length c0, .string a1] rfl (by (try simp only [List.map_toArray, List.map_cons, List.map_nil]); first | done | rfl | (simp only [List.length_drop, List.length_take]; rfl)) ?_; (with_reducible refine (slices_Index_string_string.calls k _ _ l0 a1 t104 _ ?side1 ?side2 A3.out).mono ?_); (case side1 => repeat (first | exact HR0.out | (with_reducible refine Kd.C_alloc ?_ _) | (with_reducible refine Kd.C_drewN ?_ _) | (with_reducible refine Kd.C_drew ?_))); (case side2 => exact HC0.out); rintro e w' ⟨rfl, ⟨nd, rfl⟩⟩; refine ⟨_, rfl, ?_⟩))
  go_ret
  exact ⟨by first | rfl | (simp; done) | (simp [*]; done), by repeat (first | exact Drawn0.refl _ | apply Drawn0.step)⟩

/-! ### name_always: function 41 -/
def name_always.f  : Option (List ByteArray) := some (([(⟨#[79, 98, 106, 101, 99, 116]⟩ : ByteArray), (⟨#[78, 105, 108]⟩ : ByteArray), (⟨#[66, 111, 111, 108, 101, 97, 110]⟩ : ByteArray), (⟨#[73, 110, 116, 101, 103, 101, 114]⟩ : ByteArray), (⟨#[83, 116, 114, 105, 110, 103]⟩ : ByteArray), (⟨#[83, 121, 109, 98, 111, 108]⟩ : ByteArray), (⟨#[65, 114, 114, 97, 121]⟩ : ByteArray), (⟨#[66, 108, 111, 99, 107]⟩ : ByteArray), (⟨#[67, 108, 97, 115, 115]⟩ : ByteArray), (⟨#[83, 121, 115, 116, 101, 109]⟩ : ByteArray)] : List ByteArray))
set_option maxHeartbeats 8000000 in
set_option maxRecDepth 100000 in
theorem name_always.calls  (r : List ByteArray) (w : World) (h : name_always.f  = some r) :
    Calls Tryd.prog 41 #[] w fun e w' => ∃ v0_ : Value, e = .returned (v0_) ∧ Kd.R Kd.string 9 w' w.heap.size (fun _ => True) v0_ r ∧ Below w.heap.size w w' := by
  have HB := Aside0.mk (Below.refl w.heap.size w)
  have H : (some (([(⟨#[79, 98, 106, 101, 99, 116]⟩ : ByteArray), (⟨#[78, 105, 108]⟩ : ByteArray), (⟨#[66, 111, 111, 108, 101, 97, 110]⟩ : ByteArray), (⟨#[73, 110, 116, 101, 103, 101, 114]⟩ : ByteArray), (⟨#[83, 116, 114, 105, 110, 103]⟩ : ByteArray), (⟨#[83, 121, 109, 98, 111, 108]⟩ : ByteArray), (⟨#[65, 114, 114, 97, 121]⟩ : ByteArray), (⟨#[66, 108, 111, 99, 107]⟩ : ByteArray), (⟨#[67, 108, 97, 115, 115]⟩ : ByteArray), (⟨#[83, 121, 115, 116, 101, 109]⟩ : ByteArray)] : List ByteArray))) = some r := h
  clear h
  obtain ⟨y105, hy105⟩ : ∃ y_ : List ByteArray, y_ = (([(⟨#[79, 98, 106, 101, 99, 116]⟩ : ByteArray), (⟨#[78, 105, 108]⟩ : ByteArray), (⟨#[66, 111, 111, 108, 101, 97, 110]⟩ : ByteArray), (⟨#[73, 110, 116, 101, 103, 101, 114]⟩ : ByteArray), (⟨#[83, 116, 114, 105, 110, 103]⟩ : ByteArray), (⟨#[83, 121, 109, 98, 111, 108]⟩ : ByteArray), (⟨#[65, 114, 114, 97, 121]⟩ : ByteArray), (⟨#[66, 108, 111, 99, 107]⟩ : ByteArray), (⟨#[67, 108, 97, 115, 115]⟩ : ByteArray), (⟨#[83, 121, 115, 116, 101, 109]⟩ : ByteArray)] : List ByteArray)) := ⟨_, rfl⟩
  replace H : (some y105) = some r := by first | (rw [hy105]; with_reducible exact H) | (have H2_ := (Option.bind_some _ _).symm.trans H; rw [hy105]; with_reducible exact H2_) | (have H2_ := (Option.bind_some _ _).symm.trans H; with_reducible exact H2_) | with_reducible exact H | (rw [hy105]; exact H) | exact H
  have Ny105 := Aside0.mk hy105
  clear hy105
  obtain rfl := Option.some.inj H
  go_enter Tryd.func41, Tryd.ntmps41
  go_wp2_with (first | ((with_reducible refine gate_dst (N := 1) rfl ?_); refine Kd.R_lit Kd.string _ 9 ?hg (N := 1) ?hd (xs := ([(⟨#[79, 98, 106, 101, 99, 116]⟩ : ByteArray), (⟨#[78, 105, 108]⟩ : ByteArray), (⟨#[66, 111, 111, 108, 101, 97, 110]⟩ : ByteArray), (⟨#[73, 110, 116, 101, 103, 101, 114]⟩ : ByteArray), (⟨#[83, 116, 114, 105, 110, 103]⟩ : ByteArray), (⟨#[83, 121, 109, 98, 111, 108]⟩ : ByteArray), (⟨#[65, 114, 114, 97, 121]⟩ : ByteArray), (⟨#[66, 108, 111, 99, 107]⟩ : ByteArray), (⟨#[67, 108, 97, 115, 115]⟩ : ByteArray), (⟨#[83, 121, 115, 116, 101, 109]⟩ : ByteArray)] : List ByteArray)) (inner := [.string (⟨#[79, 98, 106, 101, 99, 116]⟩ : ByteArray), .string (⟨#[78, 105, 108]⟩ : ByteArray), .string (⟨#[66, 111, 111, 108, 101, 97, 110]⟩ : ByteArray), .string (⟨#[73, 110, 116, 101, 103, 101, 114]⟩ : ByteArray), .string (⟨#[83, 116, 114, 105, 110, 103]⟩ : ByteArray), .string (⟨#[83, 121, 109, 98, 111, 108]⟩ : ByteArray), .string (⟨#[65, 114, 114, 97, 121]⟩ : ByteArray), .string (⟨#[66, 108, 111, 99, 107]⟩ : ByteArray), .string (⟨#[67, 108, 97, 115, 115]⟩ : ByteArray), .string (⟨#[83, 121, 115, 116, 101, 109]⟩ : ByteArray)]) (ok := fun _ => True) (okp := fun _ => True) ?hr ?hp (fun _ hk => hk) trivial (Below.refl _ _) (Nat.le_refl _) (by simp) ?_; (case hd => rfl); (case hg => rfl); (case hr => first | (go_simp; done) | (go_simp; rfl)); (case hp => exact (Reps.one (show Kd.M Kd.string _ _ _ (⟨#[79, 98, 106, 101, 99, 116]⟩ : ByteArray) [.string (⟨#[79, 98, 106, 101, 99, 116]⟩ : ByteArray)] from rfl) (Reps.one (show Kd.M Kd.string _ _ _ (⟨#[78, 105, 108]⟩ : ByteArray) [.string (⟨#[78, 105, 108]⟩ : ByteArray)] from rfl) (Reps.one (show Kd.M Kd.string _ _ _ (⟨#[66, 111, 111, 108, 101, 97, 110]⟩ : ByteArray) [.string (⟨#[66, 111, 111, 108, 101, 97, 110]⟩ : ByteArray)] from rfl) (Reps.one (show Kd.M Kd.string _ _ _ (⟨#[73, 110, 116, 101, 103, 101, 114]⟩ : ByteArray) [.string (⟨#[73, 110, 116, 101, 103, 101, 114]⟩ : ByteArray)] from rfl) (Reps.one (show Kd.M Kd.string _ _ _ (⟨#[83, 116, 114, 105, 110, 103]⟩ : ByteArray) [.string (⟨#[83, 116, 114, 105, 110, 103]⟩ : ByteArray)] from rfl) (Reps.one (show Kd.M Kd.string _ _ _ (⟨#[83, 121, 109, 98, 111, 108]⟩ : ByteArray) [.string (⟨#[83, 121, 109, 98, 111, 108]⟩ : ByteArray)] from rfl) (Reps.one (show Kd.M Kd.string _ _ _ (⟨#[65, 114, 114, 97, 121]⟩ : ByteArray) [.string (⟨#[65, 114, 114, 97, 121]⟩ : ByteArray)] from rfl) (Reps.one (show Kd.M Kd.string _ _ _ (⟨#[66, 108, 111, 99, 107]⟩ : ByteArray) [.string (⟨#[66, 108, 111, 99, 107]⟩ : ByteArray)] from rfl) (Reps.one (show Kd.M Kd.string _ _ _ (⟨#[67, 108, 97, 115, 115]⟩ : ByteArray) [.string (⟨#[67, 108, 97, 115, 115]⟩ : ByteArray)] from rfl) (Reps.one (show Kd.M Kd.string _ _ _ (⟨#[83, 121, 115, 116, 101, 109]⟩ : ByteArray) [.string (⟨#[83, 121, 115, 116, 101, 109]⟩ : ByteArray)] from rfl) (Reps.none _ _)))))))))))); intro v106 w1 ho2 hb hg_ hnew_; clear hg_ hnew_; (first | rw [← Ny105.out] at ho2 | (simp only [Int.reduceToNat] at ho2; rw [← Ny105.out] at ho2)); have n0_ := Aside0.mk (Kd.R_lower ho2 (below_size (by repeat (first | (with_reducible first | exact HB.out | apply below_alloc | apply pw_below_drewN | apply below_drew1) | exact HB.out)))); have n1_ := Aside0.mk (below_step (by repeat (first | (with_reducible first | exact HB.out | apply below_alloc | apply pw_below_drewN | apply below_drew1) | exact HB.out)) hb); clear HB; have HO107 := n0_; have HB := n1_; clear n0_ n1_; clear hb ho2))
  go_ret
  exact ⟨_, by first | rfl | (simp [errW_none, errW_some] <;> rfl) | (simp [*, errW_none, errW_some] <;> rfl), by (with_reducible repeat (first | apply Kd.R_alloc | apply Kd.R_drewN | apply Kd.R_drew)); exact HO107.out, by repeat (first | (with_reducible first | exact HB.out | apply below_alloc | apply pw_below_drewN | apply below_drew1) | exact HB.out)⟩

/-! ### name_Always: function 34 -/
def name_Always.f (k : Nat) (a0 : ByteArray) : Option (Bool) := (name_always.f).bind fun t108 => ((slices_Contains_string_string.f k t108 a0).bind fun t111 => (some t111))
theorem name_Always.mono : ∀ a0 k, LeO (name_Always.f k a0) (name_Always.f (k + 1) a0) := by
  intro a0 k
  unfold name_Always.f
  repeat' first
      | (with_reducible exact slices_Contains_string_string.mono _ _ _)
      | (with_reducible exact LeO.refl _)
      | (with_reducible exact LeO.none _)
      | (with_reducible refine LeO.ite ?_ ?_)
      | (with_reducible refine LeO.bind ?_ (fun _ => ?_))
      | exact slices_Contains_string_string.mono _ _ _
      | exact LeO.none _
      | refine LeO.ite ?_ ?_
      | refine LeO.bind ?_ (fun _ => ?_)
set_option maxHeartbeats 8000000 in
set_option maxRecDepth 100000 in
theorem name_Always.calls (k : Nat) (a0 : ByteArray) (r : Bool) (w : World) (h : name_Always.f k a0 = some r) :
    Calls Tryd.prog 34 #[.string a0] w fun e w' => e = .returned (.bool r) ∧ Below w.heap.size w w' := by
  have HB := Aside0.mk (Below.refl w.heap.size w)
  have H : ((name_always.f).bind fun t108 => ((slices_Contains_string_string.f k t108 a0).bind fun t111 => (some t111))) = some r := h
  clear h
  replace H := Option.bind_eq_some_iff.mp H
  obtain ⟨t108, A20, H⟩ := H
  replace H : ((slices_Contains_string_string.f k t108 a0).bind fun t111 => (some t111)) = some r := H
  have A2 := Aside0.mk A20
  clear A20
  replace H := Option.bind_eq_some_iff.mp H
  obtain ⟨t111, A30, H⟩ := H
  replace H : (some t111) = some r := H
  have A3 := Aside0.mk A30
  clear A30
  obtain rfl := Option.some.inj H
  go_enter Tryd.func34, Tryd.ntmps34
  go_wp2_with (first | ((with_reducible refine gate_callee (f := 41) rfl ?_); refine goesL_ (some 3) rfl rfl Tryd.func41 (by kernel_rfl) rfl #[] rfl (by (try simp only [List.map_toArray, List.map_cons, List.map_nil]); first | done | rfl | (simp only [List.length_drop, List.length_take]; rfl)) ?_; (with_reducible refine (name_always.calls  t108 _ A2.out).mono ?_); rintro e w4 ⟨v109, rfl, ho0, hb⟩; refine ⟨_, rfl, ?_⟩; have n0_ := Aside0.mk (Kd.R_lower ho0 (below_size (by repeat (first | (with_reducible first | exact HB.out | apply below_alloc | apply pw_below_drewN | apply below_drew1) | exact HB.out)))); have n1_ := Aside0.mk (below_step (by repeat (first | (with_reducible first | exact HB.out | apply below_alloc | apply pw_below_drewN | apply below_drew1) | exact HB.out)) hb); clear HB; have HO110 := n0_; have HB := n1_; clear n0_ n1_; (try clear hb); (try clear hb2); (try clear hk); (try clear hi); (try clear ho0); obtain ⟨Ao5, co5, eo5⟩ := Kd.R_slice HO110.out; subst eo5) | ((with_reducible refine gate_callee (f := 40) rfl ?_); refine goesL_ (some 5) rfl rfl Tryd.func40 (by kernel_rfl) rfl #[.slice Ao5 t108.length co5, .string a0] rfl (by (try simp only [List.map_toArray, List.map_cons, List.map_nil]); first | done | rfl | (simp only [List.length_drop, List.length_take]; rfl)) ?_; (with_reducible refine (slices_Contains_string_string.calls k _ _ t108 a0 t111 _ ?side1 ?side2 A3.out).mono ?_); (case side1 => repeat (first | exact (Kd.R_reads' HO110.out).2.2 | (with_reducible refine Kd.C_alloc ?_ _) | (with_reducible refine Kd.C_drewN ?_ _) | (with_reducible refine Kd.C_drew ?_))); (case side2 => exact (Kd.R_reads' HO110.out).2.1); rintro e w' ⟨rfl, ⟨nd, rfl⟩⟩; refine ⟨_, rfl, ?_⟩))
  go_ret
  exact ⟨by first | rfl | (simp [errW_none, errW_some] <;> rfl) | (simp [*, errW_none, errW_some] <;> rfl), by repeat (first | (with_reducible first | exact HB.out | apply below_alloc | apply pw_below_drewN | apply below_drew1) | exact HB.out)⟩

/-! ### name_lower: function 43 -/
def name_lower.f (a0 : ByteArray) : Option (Bool) := (name_Is.f a0).bind fun t112 => (if t112 = true then (if 0 < (a0.size : Int) then ((name_small.f (wrap32 (bt a0 0))).bind fun t113 => (some t113)) else (none)) else (some false))
set_option maxHeartbeats 8000000 in
set_option maxRecDepth 100000 in
theorem name_lower.calls (a0 : ByteArray) (r : Bool) (w : World) (h : name_lower.f a0 = some r) :
    Calls Tryd.prog 43 #[.string a0] w fun e w' => e = .returned (.bool r) ∧ Below w.heap.size w w' := by
  have HB := Aside0.mk (Below.refl w.heap.size w)
  have H : ((name_Is.f a0).bind fun t112 => (if t112 = true then (if 0 < (a0.size : Int) then ((name_small.f (wrap32 (bt a0 0))).bind fun t113 => (some t113)) else (none)) else (some false))) = some r := h
  clear h
  replace H := Option.bind_eq_some_iff.mp H
  obtain ⟨t112, A20, H⟩ := H
  replace H : (if t112 = true then (if 0 < (a0.size : Int) then ((name_small.f (wrap32 (bt a0 0))).bind fun t113 => (some t113)) else (none)) else (some false)) = some r := H
  have A2 := Aside0.mk A20
  clear A20
  by_cases c3 : t112 = true
  · subst c3
    have H1 : (if 0 < (a0.size : Int) then ((name_small.f (wrap32 (bt a0 0))).bind fun t113 => (some t113)) else (none)) = some r := by rw [if_pos rfl] at H; exact H
    clear H
    have H := H1
    clear H1
    by_cases c4 : 0 < (a0.size : Int)
    · rw [if_pos c4] at H
      have c4b0 : decide (0 < (a0.size : Int)) = true := decide_eq_true c4
      have c4b1 : decide (0 < a0.size) = true := decide_eq_true (by omega)
      clear c4
      replace H := Option.bind_eq_some_iff.mp H
      obtain ⟨t113, A60, H⟩ := H
      replace H : (some t113) = some r := H
      have A6 := Aside0.mk A60
      clear A60
      obtain rfl := Option.some.inj H
      go_enter Tryd.func43, Tryd.ntmps43
      go_wp2_with (first | ((with_reducible refine gate_callee (f := 38) rfl ?_); refine goesL_ (some 4) rfl rfl Tryd.func38 (by kernel_rfl) rfl #[.string a0] rfl (by (try simp only [List.map_toArray, List.map_cons, List.map_nil]); first | done | rfl | (simp only [List.length_drop, List.length_take]; rfl)) ?_; (with_reducible refine (name_Is.calls a0 true _ A2.out).mono ?_); rintro e w7 ⟨rfl, hb⟩; refine ⟨_, rfl, ?_⟩; have n0_ := Aside0.mk (below_step (by repeat (first | (with_reducible first | exact HB.out | apply below_alloc | apply pw_below_drewN | apply below_drew1) | exact HB.out)) hb); clear HB; have HB := n0_; clear n0_; (try clear hb); (try clear hb2); (try clear hk); (try clear hi); have p5 : 0 ≤ (0 : Int) := (by omega); have q5 : 0 < a0.size := (by have : (0 : Int) < (a0.size : Int) := of_decide_eq_true (by first | (with_reducible assumption) | assumption); omega); have hx5 : ∀ h : 0 < a0.size, ((a0[0]'h).toNat : Int) = bt a0 0 := bt_at a0 0; clear p5; have qi5 : (0 < (a0.size : Int)) = True := eq_true (of_decide_eq_true (by first | (with_reducible assumption) | assumption)); replace q5 := eq_true q5) | (go_at_call 46; (with_reducible refine (name_small.calls (wrap32 (bt a0 0)) t113 _ A6.out).mono ?_); rintro e w' ⟨rfl, ⟨nd, rfl⟩⟩))
      go_ret
      exact ⟨by first | rfl | (simp [errW_none, errW_some] <;> rfl) | (simp [*, errW_none, errW_some] <;> rfl), by repeat (first | (with_reducible first | exact HB.out | apply below_alloc | apply pw_below_drewN | apply below_drew1) | exact HB.out)⟩
    · rw [if_neg c4] at H
      exact absurd H (by simp)
  · replace c3 := Bool.eq_false_iff.mpr c3
    subst c3
    have H1 : (some false) = some r := by rw [if_neg (show ¬ (false = true) by decide)] at H; exact H
    clear H
    have H := H1
    clear H1
    obtain rfl := Option.some.inj H
    go_enter Tryd.func43, Tryd.ntmps43
    go_wp2_with (first | ((with_reducible refine gate_callee (f := 38) rfl ?_); refine goesL_ (some 4) rfl rfl Tryd.func38 (by kernel_rfl) rfl #[.string a0] rfl (by (try simp only [List.map_toArray, List.map_cons, List.map_nil]); first | done | rfl | (simp only [List.length_drop, List.length_take]; rfl)) ?_; (with_reducible refine (name_Is.calls a0 false _ A2.out).mono ?_); rintro e w8 ⟨rfl, hb⟩; refine ⟨_, rfl, ?_⟩; have n0_ := Aside0.mk (below_step (by repeat (first | (with_reducible first | exact HB.out | apply below_alloc | apply pw_below_drewN | apply below_drew1) | exact HB.out)) hb); clear HB; have HB := n0_; clear n0_; (try clear hb); (try clear hb2); (try clear hk); (try clear hi)))
    go_ret
    exact ⟨by first | rfl | (simp [errW_none, errW_some] <;> rfl) | (simp [*, errW_none, errW_some] <;> rfl), by repeat (first | (with_reducible first | exact HB.out | apply below_alloc | apply pw_below_drewN | apply below_drew1) | exact HB.out)⟩

/-! ### name_reserved: function 49 -/
def name_reserved.f  : Option (List ByteArray) := some (([(⟨#[115, 101, 108, 102]⟩ : ByteArray), (⟨#[115, 117, 112, 101, 114]⟩ : ByteArray), (⟨#[110, 105, 108]⟩ : ByteArray), (⟨#[116, 114, 117, 101]⟩ : ByteArray), (⟨#[102, 97, 108, 115, 101]⟩ : ByteArray)] : List ByteArray))
set_option maxHeartbeats 8000000 in
set_option maxRecDepth 100000 in
theorem name_reserved.calls  (r : List ByteArray) (w : World) (h : name_reserved.f  = some r) :
    Calls Tryd.prog 49 #[] w fun e w' => ∃ v0_ : Value, e = .returned (v0_) ∧ Kd.R Kd.string 9 w' w.heap.size (fun _ => True) v0_ r ∧ Below w.heap.size w w' := by
  have HB := Aside0.mk (Below.refl w.heap.size w)
  have H : (some (([(⟨#[115, 101, 108, 102]⟩ : ByteArray), (⟨#[115, 117, 112, 101, 114]⟩ : ByteArray), (⟨#[110, 105, 108]⟩ : ByteArray), (⟨#[116, 114, 117, 101]⟩ : ByteArray), (⟨#[102, 97, 108, 115, 101]⟩ : ByteArray)] : List ByteArray))) = some r := h
  clear h
  obtain ⟨y114, hy114⟩ : ∃ y_ : List ByteArray, y_ = (([(⟨#[115, 101, 108, 102]⟩ : ByteArray), (⟨#[115, 117, 112, 101, 114]⟩ : ByteArray), (⟨#[110, 105, 108]⟩ : ByteArray), (⟨#[116, 114, 117, 101]⟩ : ByteArray), (⟨#[102, 97, 108, 115, 101]⟩ : ByteArray)] : List ByteArray)) := ⟨_, rfl⟩
  replace H : (some y114) = some r := by first | (rw [hy114]; with_reducible exact H) | (have H2_ := (Option.bind_some _ _).symm.trans H; rw [hy114]; with_reducible exact H2_) | (have H2_ := (Option.bind_some _ _).symm.trans H; with_reducible exact H2_) | with_reducible exact H | (rw [hy114]; exact H) | exact H
  have Ny114 := Aside0.mk hy114
  clear hy114
  obtain rfl := Option.some.inj H
  go_enter Tryd.func49, Tryd.ntmps49
  go_wp2_with (first | ((with_reducible refine gate_dst (N := 1) rfl ?_); refine Kd.R_lit Kd.string _ 9 ?hg (N := 1) ?hd (xs := ([(⟨#[115, 101, 108, 102]⟩ : ByteArray), (⟨#[115, 117, 112, 101, 114]⟩ : ByteArray), (⟨#[110, 105, 108]⟩ : ByteArray), (⟨#[116, 114, 117, 101]⟩ : ByteArray), (⟨#[102, 97, 108, 115, 101]⟩ : ByteArray)] : List ByteArray)) (inner := [.string (⟨#[115, 101, 108, 102]⟩ : ByteArray), .string (⟨#[115, 117, 112, 101, 114]⟩ : ByteArray), .string (⟨#[110, 105, 108]⟩ : ByteArray), .string (⟨#[116, 114, 117, 101]⟩ : ByteArray), .string (⟨#[102, 97, 108, 115, 101]⟩ : ByteArray)]) (ok := fun _ => True) (okp := fun _ => True) ?hr ?hp (fun _ hk => hk) trivial (Below.refl _ _) (Nat.le_refl _) (by simp) ?_; (case hd => rfl); (case hg => rfl); (case hr => first | (go_simp; done) | (go_simp; rfl)); (case hp => exact (Reps.one (show Kd.M Kd.string _ _ _ (⟨#[115, 101, 108, 102]⟩ : ByteArray) [.string (⟨#[115, 101, 108, 102]⟩ : ByteArray)] from rfl) (Reps.one (show Kd.M Kd.string _ _ _ (⟨#[115, 117, 112, 101, 114]⟩ : ByteArray) [.string (⟨#[115, 117, 112, 101, 114]⟩ : ByteArray)] from rfl) (Reps.one (show Kd.M Kd.string _ _ _ (⟨#[110, 105, 108]⟩ : ByteArray) [.string (⟨#[110, 105, 108]⟩ : ByteArray)] from rfl) (Reps.one (show Kd.M Kd.string _ _ _ (⟨#[116, 114, 117, 101]⟩ : ByteArray) [.string (⟨#[116, 114, 117, 101]⟩ : ByteArray)] from rfl) (Reps.one (show Kd.M Kd.string _ _ _ (⟨#[102, 97, 108, 115, 101]⟩ : ByteArray) [.string (⟨#[102, 97, 108, 115, 101]⟩ : ByteArray)] from rfl) (Reps.none _ _))))))); intro v115 w1 ho2 hb hg_ hnew_; clear hg_ hnew_; (first | rw [← Ny114.out] at ho2 | (simp only [Int.reduceToNat] at ho2; rw [← Ny114.out] at ho2)); have n0_ := Aside0.mk (Kd.R_lower ho2 (below_size (by repeat (first | (with_reducible first | exact HB.out | apply below_alloc | apply pw_below_drewN | apply below_drew1) | exact HB.out)))); have n1_ := Aside0.mk (below_step (by repeat (first | (with_reducible first | exact HB.out | apply below_alloc | apply pw_below_drewN | apply below_drew1) | exact HB.out)) hb); clear HB; have HO116 := n0_; have HB := n1_; clear n0_ n1_; clear hb ho2))
  go_ret
  exact ⟨_, by first | rfl | (simp [errW_none, errW_some] <;> rfl) | (simp [*, errW_none, errW_some] <;> rfl), by (with_reducible repeat (first | apply Kd.R_alloc | apply Kd.R_drewN | apply Kd.R_drew)); exact HO116.out, by repeat (first | (with_reducible first | exact HB.out | apply below_alloc | apply pw_below_drewN | apply below_drew1) | exact HB.out)⟩

/-! ### name_Var: function 42 -/
def name_Var.f (k : Nat) (a0 : ByteArray) : Option (Bool) := (name_lower.f a0).bind fun t117 => (if t117 = true then ((name_reserved.f).bind fun t118 => ((slices_Contains_string_string.f k t118 a0).bind fun t121 => (some (!t121)))) else (some false))
theorem name_Var.mono : ∀ a0 k, LeO (name_Var.f k a0) (name_Var.f (k + 1) a0) := by
  intro a0 k
  unfold name_Var.f
  repeat' first
      | (with_reducible exact slices_Contains_string_string.mono _ _ _)
      | (with_reducible exact LeO.refl _)
      | (with_reducible exact LeO.none _)
      | (with_reducible refine LeO.ite ?_ ?_)
      | (with_reducible refine LeO.bind ?_ (fun _ => ?_))
      | exact slices_Contains_string_string.mono _ _ _
      | exact LeO.none _
      | refine LeO.ite ?_ ?_
      | refine LeO.bind ?_ (fun _ => ?_)
set_option maxHeartbeats 8000000 in
set_option maxRecDepth 100000 in
theorem name_Var.calls (k : Nat) (a0 : ByteArray) (r : Bool) (w : World) (h : name_Var.f k a0 = some r) :
    Calls Tryd.prog 42 #[.string a0] w fun e w' => e = .returned (.bool r) ∧ Below w.heap.size w w' := by
  have HB := Aside0.mk (Below.refl w.heap.size w)
  have H : ((name_lower.f a0).bind fun t117 => (if t117 = true then ((name_reserved.f).bind fun t118 => ((slices_Contains_string_string.f k t118 a0).bind fun t121 => (some (!t121)))) else (some false))) = some r := h
  clear h
  replace H := Option.bind_eq_some_iff.mp H
  obtain ⟨t117, A20, H⟩ := H
  replace H : (if t117 = true then ((name_reserved.f).bind fun t118 => ((slices_Contains_string_string.f k t118 a0).bind fun t121 => (some (!t121)))) else (some false)) = some r := H
  have A2 := Aside0.mk A20
  clear A20
  by_cases c3 : t117 = true
  · subst c3
    have H1 : ((name_reserved.f).bind fun t118 => ((slices_Contains_string_string.f k t118 a0).bind fun t121 => (some (!t121)))) = some r := by rw [if_pos rfl] at H; exact H
    clear H
    have H := H1
    clear H1
    replace H := Option.bind_eq_some_iff.mp H
    obtain ⟨t118, A40, H⟩ := H
    replace H : ((slices_Contains_string_string.f k t118 a0).bind fun t121 => (some (!t121))) = some r := H
    have A4 := Aside0.mk A40
    clear A40
    replace H := Option.bind_eq_some_iff.mp H
    obtain ⟨t121, A50, H⟩ := H
    replace H : (some (!t121)) = some r := H
    have A5 := Aside0.mk A50
    clear A50
    obtain rfl := Option.some.inj H
    go_enter Tryd.func42, Tryd.ntmps42
    go_wp2_with (first | ((with_reducible refine gate_callee (f := 43) rfl ?_); refine goesL_ (some 4) rfl rfl Tryd.func43 (by kernel_rfl) rfl #[.string a0] rfl (by (try simp only [List.map_toArray, List.map_cons, List.map_nil]); first | done | rfl | (simp only [List.length_drop, List.length_take]; rfl)) ?_; (with_reducible refine (name_lower.calls a0 true _ A2.out).mono ?_); rintro e w6 ⟨rfl, hb⟩; refine ⟨_, rfl, ?_⟩; have n0_ := Aside0.mk (below_step (by repeat (first | (with_reducible first | exact HB.out | apply below_alloc | apply pw_below_drewN | apply below_drew1) | exact HB.out)) hb); clear HB; have HB := n0_; clear n0_; (try clear hb); (try clear hb2); (try clear hk); (try clear hi)) | (go_at_call 49; (with_reducible refine (name_reserved.calls  t118 _ A4.out).mono ?_); rintro e w7 ⟨v119, rfl, ho0, hb⟩; have n0_ := Aside0.mk (Kd.R_lower ho0 (below_size (by repeat (first | (with_reducible first | exact HB.out | apply below_alloc | apply pw_below_drewN | apply below_drew1) | exact HB.out)))); have n1_ := Aside0.mk (below_step (by repeat (first | (with_reducible first | exact HB.out | apply below_alloc | apply pw_below_drewN | apply below_drew1) | exact HB.out)) hb); clear HB; have HO120 := n0_; have HB := n1_; clear n0_ n1_; (try clear hb); (try clear hb2); (try clear hk); (try clear hi); (try clear ho0); obtain ⟨Ao8, co8, eo8⟩ := Kd.R_slice HO120.out; subst eo8) | (go_at_call 40; (with_reducible refine (slices_Contains_string_string.calls k _ _ t118 a0 t121 _ ?side1 ?side2 A5.out).mono ?_); (case side1 => repeat (first | exact (Kd.R_reads' HO120.out).2.2 | (with_reducible refine Kd.C_alloc ?_ _) | (with_reducible refine Kd.C_drewN ?_ _) | (with_reducible refine Kd.C_drew ?_))); (case side2 => exact (Kd.R_reads' HO120.out).2.1); rintro e w' ⟨rfl, ⟨nd, rfl⟩⟩))
    go_ret
    exact ⟨by first | rfl | (simp [errW_none, errW_some] <;> rfl) | (simp [*, errW_none, errW_some] <;> rfl), by repeat (first | (with_reducible first | exact HB.out | apply below_alloc | apply pw_below_drewN | apply below_drew1) | exact HB.out)⟩
  · replace c3 := Bool.eq_false_iff.mpr c3
    subst c3
    have H1 : (some false) = some r := by rw [if_neg (show ¬ (false = true) by decide)] at H; exact H
    clear H
    have H := H1
    clear H1
    obtain rfl := Option.some.inj H
    go_enter Tryd.func42, Tryd.ntmps42
    go_wp2_with (first | ((with_reducible refine gate_callee (f := 43) rfl ?_); refine goesL_ (some 4) rfl rfl Tryd.func43 (by kernel_rfl) rfl #[.string a0] rfl (by (try simp only [List.map_toArray, List.map_cons, List.map_nil]); first | done | rfl | (simp only [List.length_drop, List.length_take]; rfl)) ?_; (with_reducible refine (name_lower.calls a0 false _ A2.out).mono ?_); rintro e w9 ⟨rfl, hb⟩; refine ⟨_, rfl, ?_⟩; have n0_ := Aside0.mk (below_step (by repeat (first | (with_reducible first | exact HB.out | apply below_alloc | apply pw_below_drewN | apply below_drew1) | exact HB.out)) hb); clear HB; have HB := n0_; clear n0_; (try clear hb); (try clear hb2); (try clear hk); (try clear hi)))
    go_ret
    exact ⟨by first | rfl | (simp [errW_none, errW_some] <;> rfl) | (simp [*, errW_none, errW_some] <;> rfl), by repeat (first | (with_reducible first | exact HB.out | apply below_alloc | apply pw_below_drewN | apply below_drew1) | exact HB.out)⟩

/-! ### def_vars: function 35 -/
def def_vars.l0 : Nat → List ByteArray → List ByteArray → Int → Int → Option (Bool)
  | 0, _, _, _, _ => none
  | k + 1, x0, x5, x6, x7 => if x7 < x6 then (if 0 ≤ x7 then (if x7 < (x5.length : Int) then ((name_Var.f k (rdOf ByteArray.empty x5 x7)).bind fun t123 => (if t123 = true then (if x7 ≤ (x0.length : Int) then ((slices_Contains_string_string.f k (x0.take (x7 : Int).toNat) (rdOf ByteArray.empty x5 x7)).bind fun t125 => (if t125 = true then (some false) else (def_vars.l0 k x0 x5 x6 (wrap64 (x7 + 1))))) else (none)) else (some false))) else (none)) else (none)) else (some (decide ((x0.length : Int) ≤ 20)))
def def_vars.f (k : Nat) (l0 : List ByteArray) : Option (Bool) := def_vars.l0 k l0 l0 (l0.length : Int) 0
theorem def_vars.mono_l : ∀ k, (∀ y0 y1 y2 y3, LeO (def_vars.l0 k y0 y1 y2 y3) (def_vars.l0 (k + 1) y0 y1 y2 y3))
  | 0 => fun _ _ _ _ r h => by simp [def_vars.l0] at h
  | k + 1 => by
    have ih0 := def_vars.mono_l k
    · intro y0 y1 y2 y3
      unfold def_vars.l0
      repeat' first
      | (with_reducible exact ih0 _ _ _ _)
      | (with_reducible exact name_Var.mono _ _)
      | (with_reducible exact slices_Contains_string_string.mono _ _ _)
      | (with_reducible exact LeO.refl _)
      | (with_reducible exact LeO.none _)
      | (with_reducible refine LeO.ite ?_ ?_)
      | (with_reducible refine LeO.bind ?_ (fun _ => ?_))
      | exact ih0 _ _ _ _
      | exact name_Var.mono _ _
      | exact slices_Contains_string_string.mono _ _ _
      | exact LeO.none _
      | refine LeO.ite ?_ ?_
      | refine LeO.bind ?_ (fun _ => ?_)
theorem def_vars.mono : ∀ a0 k, LeO (def_vars.f k a0) (def_vars.f (k + 1) a0) := by
  intro a0 k
  have ih0 := def_vars.mono_l k
  unfold def_vars.f
  repeat' first
      | (with_reducible exact ih0 _ _ _ _)
      | (with_reducible exact name_Var.mono _ _)
      | (with_reducible exact slices_Contains_string_string.mono _ _ _)
      | (with_reducible exact LeO.refl _)
      | (with_reducible exact LeO.none _)
      | (with_reducible refine LeO.ite ?_ ?_)
      | (with_reducible refine LeO.bind ?_ (fun _ => ?_))
      | exact ih0 _ _ _ _
      | exact name_Var.mono _ _
      | exact slices_Contains_string_string.mono _ _ _
      | exact LeO.none _
      | refine LeO.ite ?_ ?_
      | refine LeO.bind ?_ (fun _ => ?_)
set_option maxHeartbeats 8000000 in
set_option maxRecDepth 100000 in
theorem def_vars.calls (k : Nat) (A0 : Option Addr) (c0 : Nat) (l0 : List ByteArray) (r : Bool) (w : World) (hr0 : Kd.C Kd.string w A0 l0.length l0) (hc0 : l0.length ≤ c0) (h : def_vars.f k l0 = some r) :
    Calls Tryd.prog 35 #[.slice A0 l0.length c0] w fun e w' => e = .returned (.bool r) ∧ Below w.heap.size w w' := by
  have HR0 := Aside0.mk hr0
  have HC0 := Aside0.mk hc0
  clear hr0 hc0
  have HB := Aside0.mk (Below.refl w.heap.size w)
  have H : (def_vars.l0 k l0 l0 (l0.length : Int) 0) = some r := h
  clear h
  have H' := Aside0.mk H
  clear H
  go_enter Tryd.func35, Tryd.ntmps35
  go_wp2
  go_loopg [7] k (fun kq v7 w' => ∃ (x7_1 : Int), v7 = .int .i64 x7_1 ∧ Aside0 (def_vars.l0 kq l0 l0 (l0.length : Int) x7_1 = some r) ∧ Aside0 (kq ≤ k) ∧ Aside0 (Below w.heap.size w w'))
  case atStart => exact ⟨(0), (by first | rfl | (simp; done) | (simp [*]; done)), H', ⟨Nat.le_refl _⟩, ⟨by repeat (first | (with_reducible first | exact HB.out | apply below_alloc | apply pw_below_drewN | apply below_drew1) | exact HB.out)⟩⟩
  case round =>
    clear H'
    obtain ⟨x7_1, rfl, HA, HK1, HB⟩ := hrel
    cases gk with
    | zero => exact absurd HA.out (by simp [def_vars.l0])
    | succ k1 =>
      have H := HA.out
      clear HA
      simp only [def_vars.l0] at H
      by_cases c2 : x7_1 < (l0.length : Int)
      · rw [if_pos c2] at H
        have c2b0 : decide (x7_1 < (l0.length : Int)) = true := decide_eq_true c2
        clear c2
        by_cases c3 : 0 ≤ x7_1
        · rw [if_pos c3] at H
          have c3b0 : decide (0 ≤ x7_1) = true := decide_eq_true c3
          clear c3
          by_cases c4 : x7_1 < (l0.length : Int)
          · rw [if_pos c4] at H
            have c4b0 : decide (x7_1 < (l0.length : Int)) = true := decide_eq_true c4
            clear c4
            replace H := Option.bind_eq_some_iff.mp H
            obtain ⟨t123, A50, H⟩ := H
            replace H : (if t123 = true then (if x7_1 ≤ (l0.length : Int) then ((slices_Contains_string_string.f k1 (l0.take (x7_1 : Int).toNat) (rdOf ByteArray.empty l0 x7_1)).bind fun t125 => (if t125 = true then (some false) else (def_vars.l0 k1 l0 l0 (l0.length : Int) (wrap64 (x7_1 + 1))))) else (none)) else (some false)) = some r := H
            have A5 := Aside0.mk A50
            clear A50
            by_cases c6 : t123 = true
            · subst c6
              have H1 : (if x7_1 ≤ (l0.length : Int) then ((slices_Contains_string_string.f k1 (l0.take (x7_1 : Int).toNat) (rdOf ByteArray.empty l0 x7_1)).bind fun t125 => (if t125 = true then (some false) else (def_vars.l0 k1 l0 l0 (l0.length : Int) (wrap64 (x7_1 + 1))))) else (none)) = some r := by rw [if_pos rfl] at H; exact H
              clear H
              have H := H1
              clear H1
              have c7b0 := eq_true (of_decide_eq_true (by first | (with_reducible assumption) | assumption) : 0 ≤ x7_1)
              by_cases c8 : x7_1 ≤ (l0.length : Int)
              · rw [if_pos c8] at H
                have c8b0 := eq_true c8
                have c8b1 : decide (x7_1 ≤ (l0.length : Int)) = true := decide_eq_true c8
                clear c8
                replace H := Option.bind_eq_some_iff.mp H
                obtain ⟨t125, A90, H⟩ := H
                replace H : (if t125 = true then (some false) else (def_vars.l0 k1 l0 l0 (l0.length : Int) (wrap64 (x7_1 + 1)))) = some r := H
                have A9 := Aside0.mk A90
                clear A90
                by_cases c10 : t125 = true
                · subst c10
                  have H1 : (some false) = some r := by rw [if_pos rfl] at H; exact H
                  clear H
                  have H := H1
                  clear H1
                  obtain rfl := Option.some.inj H
                  have p122 : 0 ≤ (x7_1 : Int) := of_decide_eq_true (by first | (with_reducible assumption) | assumption)
                  have q122 : x7_1 < (l0.length : Int) := of_decide_eq_true (by first | (with_reducible assumption) | assumption)
                  obtain ⟨ad122, e122, hx122_0⟩ := Kd.at_string HR0.out x7_1 p122 q122
                  cases e122
                  replace hx122_0 := (HB.out.cell (World.block_lt_of_cell? w _ hx122_0)).trans hx122_0
                  replace p122 := eq_true p122
                  replace q122 := eq_true q122
                  go_wp2_with (first | ((with_reducible refine gate_callee (f := 42) rfl ?_); refine goesL_ (some 13) rfl rfl Tryd.func42 (by kernel_rfl) rfl #[.string (rdOf ByteArray.empty l0 x7_1)] rfl (by (try simp only [List.map_toArray, List.map_cons, List.map_nil]); first | done | rfl | (simp only [List.length_drop, List.length_take]; rfl)) ?_; (with_reducible refine (name_Var.calls k1 (rdOf ByteArray.empty l0 x7_1) true _ A5.out).mono ?_); rintro e w11 ⟨rfl, hb⟩; refine ⟨_, rfl, ?_⟩; have n0_ := Aside0.mk (below_step (by repeat (first | (with_reducible first | exact HB.out | apply below_alloc | apply pw_below_drewN | apply below_drew1) | exact HB.out)) hb); clear HB; have HB := n0_; clear n0_; (try clear hb); (try clear hb2); (try clear hk); (try clear hi); obtain ⟨i012, hi012, _, hsz12, _⟩ := info_parts info9; obtain ⟨hcut12, hA12, hC12⟩ := print_take_of (P := Tryd.prog) Value.string (⟨#[]⟩ : ByteArray) 23 9 .i64 Tryd.underlying23 hi012 hsz12 (some ad122) c0 l0 x7_1 (of_decide_eq_true (by first | (with_reducible assumption) | assumption)) (of_decide_eq_true (by first | (with_reducible assumption) | assumption)) HC0.out; have HR124 := Aside0.mk (Kd.C_of_reads (h1 := fun _ => rfl) (hA12 _ (Kd.reads_of_C HR0.out))); have HC124 := Aside0.mk hC12; clear hA12 hC12 hi012 hsz12) | (go_at_call 40; have l0_ : (l0.take (x7_1 : Int).toNat).length = (x7_1 : Int).toNat := (by rw [List.length_take]; first | omega | (have q_ := of_decide_eq_true (p := x7_1 < (l0.length : Int)) (by assumption); omega) | (have q_ := of_eq_true (p := x7_1 < (l0.length : Int)) (by assumption); omega) | (have q_ := of_decide_eq_true (p := x7_1 ≤ (l0.length : Int)) (by assumption); omega) | (have q_ := of_eq_true (p := x7_1 ≤ (l0.length : Int)) (by assumption); omega)); refine' Nm.calls_args ?cl ((slices_Contains_string_string.calls k1 _ _ (l0.take (x7_1 : Int).toNat) (rdOf ByteArray.empty l0 x7_1) true _ ?side1 ?side2 A9.out).mono ?_); (case cl => first | rfl | (rw [l0_])); clear l0_; (case side1 => repeat (first | exact (Kd.C_below HR124.out HB.out) | (with_reducible refine Kd.C_alloc ?_ _) | (with_reducible refine Kd.C_drewN ?_ _) | (with_reducible refine Kd.C_drew ?_))); (case side2 => exact HC124.out); rintro e w' ⟨rfl, ⟨nd, rfl⟩⟩))
                  go_ret
                  exact ⟨by first | rfl | (simp [errW_none, errW_some] <;> rfl) | (simp [*, errW_none, errW_some] <;> rfl), by repeat (first | (with_reducible first | exact HB.out | apply below_alloc | apply pw_below_drewN | apply below_drew1) | exact HB.out)⟩
                · replace c10 := Bool.eq_false_iff.mpr c10
                  subst c10
                  have H1 : (def_vars.l0 k1 l0 l0 (l0.length : Int) (wrap64 (x7_1 + 1))) = some r := by rw [if_neg (show ¬ (false = true) by decide)] at H; exact H
                  clear H
                  have H := H1
                  clear H1
                  have H' := Aside0.mk H
                  clear H
                  have p122 : 0 ≤ (x7_1 : Int) := of_decide_eq_true (by first | (with_reducible assumption) | assumption)
                  have q122 : x7_1 < (l0.length : Int) := of_decide_eq_true (by first | (with_reducible assumption) | assumption)
                  obtain ⟨ad122, e122, hx122_0⟩ := Kd.at_string HR0.out x7_1 p122 q122
                  cases e122
                  replace hx122_0 := (HB.out.cell (World.block_lt_of_cell? w _ hx122_0)).trans hx122_0
                  replace p122 := eq_true p122
                  replace q122 := eq_true q122
                  go_wp2_with (first | ((with_reducible refine gate_callee (f := 42) rfl ?_); refine goesL_ (some 13) rfl rfl Tryd.func42 (by kernel_rfl) rfl #[.string (rdOf ByteArray.empty l0 x7_1)] rfl (by (try simp only [List.map_toArray, List.map_cons, List.map_nil]); first | done | rfl | (simp only [List.length_drop, List.length_take]; rfl)) ?_; (with_reducible refine (name_Var.calls k1 (rdOf ByteArray.empty l0 x7_1) true _ A5.out).mono ?_); rintro e w13 ⟨rfl, hb⟩; refine ⟨_, rfl, ?_⟩; have n0_ := Aside0.mk (below_step (by repeat (first | (with_reducible first | exact HB.out | apply below_alloc | apply pw_below_drewN | apply below_drew1) | exact HB.out)) hb); clear HB; have HB := n0_; clear n0_; (try clear hb); (try clear hb2); (try clear hk); (try clear hi); obtain ⟨i014, hi014, _, hsz14, _⟩ := info_parts info9; obtain ⟨hcut14, hA14, hC14⟩ := print_take_of (P := Tryd.prog) Value.string (⟨#[]⟩ : ByteArray) 23 9 .i64 Tryd.underlying23 hi014 hsz14 (some ad122) c0 l0 x7_1 (of_decide_eq_true (by first | (with_reducible assumption) | assumption)) (of_decide_eq_true (by first | (with_reducible assumption) | assumption)) HC0.out; have HR124 := Aside0.mk (Kd.C_of_reads (h1 := fun _ => rfl) (hA14 _ (Kd.reads_of_C HR0.out))); have HC124 := Aside0.mk hC14; clear hA14 hC14 hi014 hsz14) | (go_at_call 40; have l0_ : (l0.take (x7_1 : Int).toNat).length = (x7_1 : Int).toNat := (by rw [List.length_take]; first | omega | (have q_ := of_decide_eq_true (p := x7_1 < (l0.length : Int)) (by assumption); omega) | (have q_ := of_eq_true (p := x7_1 < (l0.length : Int)) (by assumption); omega) | (have q_ := of_decide_eq_true (p := x7_1 ≤ (l0.length : Int)) (by assumption); omega) | (have q_ := of_eq_true (p := x7_1 ≤ (l0.length : Int)) (by assumption); omega)); refine' Nm.calls_args ?cl ((slices_Contains_string_string.calls k1 _ _ (l0.take (x7_1 : Int).toNat) (rdOf ByteArray.empty l0 x7_1) false _ ?side1 ?side2 A9.out).mono ?_); (case cl => first | rfl | (rw [l0_])); clear l0_; (case side1 => repeat (first | exact (Kd.C_below HR124.out HB.out) | (with_reducible refine Kd.C_alloc ?_ _) | (with_reducible refine Kd.C_drewN ?_ _) | (with_reducible refine Kd.C_drew ?_))); (case side2 => exact HC124.out); rintro e w' ⟨rfl, ⟨nd, rfl⟩⟩))
                  go_roundg k1
                  case measure => have := HK1.out; omega
                  case rel => exact ⟨(wrap64 (x7_1 + 1)), (by first | rfl | (simp; done) | (simp [*]; done)), H', ⟨by have := HK1.out; omega⟩, ⟨by repeat (first | (with_reducible first | exact HB.out | apply below_alloc | apply pw_below_drewN | apply below_drew1) | exact HB.out)⟩⟩
              · rw [if_neg c8] at H
                exact absurd H (by simp)
            · replace c6 := Bool.eq_false_iff.mpr c6
              subst c6
              have H1 : (some false) = some r := by rw [if_neg (show ¬ (false = true) by decide)] at H; exact H
              clear H
              have H := H1
              clear H1
              obtain rfl := Option.some.inj H
              have p122 : 0 ≤ (x7_1 : Int) := of_decide_eq_true (by first | (with_reducible assumption) | assumption)
              have q122 : x7_1 < (l0.length : Int) := of_decide_eq_true (by first | (with_reducible assumption) | assumption)
              obtain ⟨ad122, e122, hx122_0⟩ := Kd.at_string HR0.out x7_1 p122 q122
              cases e122
              replace hx122_0 := (HB.out.cell (World.block_lt_of_cell? w _ hx122_0)).trans hx122_0
              replace p122 := eq_true p122
              replace q122 := eq_true q122
              go_wp2_with (first | ((with_reducible refine gate_callee (f := 42) rfl ?_); refine goesL_ (some 13) rfl rfl Tryd.func42 (by kernel_rfl) rfl #[.string (rdOf ByteArray.empty l0 x7_1)] rfl (by (try simp only [List.map_toArray, List.map_cons, List.map_nil]); first | done | rfl | (simp only [List.length_drop, List.length_take]; rfl)) ?_; (with_reducible refine (name_Var.calls k1 (rdOf ByteArray.empty l0 x7_1) false _ A5.out).mono ?_); rintro e w15 ⟨rfl, hb⟩; refine ⟨_, rfl, ?_⟩; have n0_ := Aside0.mk (below_step (by repeat (first | (with_reducible first | exact HB.out | apply below_alloc | apply pw_below_drewN | apply below_drew1) | exact HB.out)) hb); clear HB; have HB := n0_; clear n0_; (try clear hb); (try clear hb2); (try clear hk); (try clear hi)))
              go_ret
              exact ⟨by first | rfl | (simp [errW_none, errW_some] <;> rfl) | (simp [*, errW_none, errW_some] <;> rfl), by repeat (first | (with_reducible first | exact HB.out | apply below_alloc | apply pw_below_drewN | apply below_drew1) | exact HB.out)⟩
          · rw [if_neg c4] at H
            exact absurd H (by simp)
        · rw [if_neg c3] at H
          exact absurd H (by simp)
      · rw [if_neg c2] at H
        have c2b0 : decide (x7_1 < (l0.length : Int)) = false := decide_eq_false c2
        clear c2
        obtain rfl := Option.some.inj H
        go_wp2
        go_ret
        exact ⟨by first | rfl | (simp [errW_none, errW_some] <;> rfl) | (simp [*, errW_none, errW_some] <;> rfl), by repeat (first | (with_reducible first | exact HB.out | apply below_alloc | apply pw_below_drewN | apply below_drew1) | exact HB.out)⟩

/-! ### strings_Trim: function 50 -/
def strings_Trim.f (a0 a1 : ByteArray) : Option ByteArray := if (a1.data.toList.all (fun b => decide (b.toNat < 128)) && decide (a1.size < 4294967281) && decide (a0.size ≤ 9223372036854775807)) = true then some ⟨(Lib.trimS a0.data.toList a1.data.toList).toArray⟩ else none
theorem strings_Trim.calls (a0 : ByteArray) (a1 : ByteArray) (r : ByteArray) (w : World) (h : strings_Trim.f a0 a1 = some r) :
    Calls Tryd.prog 50 #[.string a0, .string a1] w fun e w' => e = .returned (.string r) ∧ Below w.heap.size w w' := by
  unfold strings_Trim.f at h
  by_cases hs : (a1.data.toList.all (fun b => decide (b.toNat < 128)) && decide (a1.size < 4294967281) && decide (a0.size ≤ 9223372036854775807)) = true
  · rw [if_pos hs] at h
    obtain rfl := Option.some.inj h
    rw [Bool.and_eq_true, Bool.and_eq_true, decide_eq_true_eq, decide_eq_true_eq] at hs
    exact Any.strings_Trim_laid Tryd.lays160 (by kernel_rfl) a0 a1 w hs.2 hs.1.2 (ascii_of_all hs.1.1)
  · rw [if_neg hs] at h
    cases h


/-! ### name_binary: function 44 -/
def name_binary.f (a0 : ByteArray) : Option (Bool) := if (a0.size : Int) = 1 then ((strings_Trim.f a0 (⟨#[43, 45, 42, 47, 60, 62, 61, 126, 38, 44, 64, 37]⟩ : ByteArray)).bind fun t126 => (some (t126.toList == ([] : List UInt8)))) else (if (a0.size : Int) = 2 then ((strings_Trim.f a0 (⟨#[43, 45, 42, 47, 60, 62, 61, 126, 38, 44, 64, 37]⟩ : ByteArray)).bind fun t127 => (some (t127.toList == ([] : List UInt8)))) else (some false))
set_option maxHeartbeats 8000000 in
set_option maxRecDepth 100000 in
theorem name_binary.calls (a0 : ByteArray) (r : Bool) (w : World) (h : name_binary.f a0 = some r) :
    Calls Tryd.prog 44 #[.string a0] w fun e w' => e = .returned (.bool r) ∧ Below w.heap.size w w' := by
  have HB := Aside0.mk (Below.refl w.heap.size w)
  have H : (if (a0.size : Int) = 1 then ((strings_Trim.f a0 (⟨#[43, 45, 42, 47, 60, 62, 61, 126, 38, 44, 64, 37]⟩ : ByteArray)).bind fun t126 => (some (t126.toList == ([] : List UInt8)))) else (if (a0.size : Int) = 2 then ((strings_Trim.f a0 (⟨#[43, 45, 42, 47, 60, 62, 61, 126, 38, 44, 64, 37]⟩ : ByteArray)).bind fun t127 => (some (t127.toList == ([] : List UInt8)))) else (some false))) = some r := h
  clear h
  by_cases c2 : (a0.size : Int) = 1
  · rw [if_pos c2] at H
    have c2b0 : ((a0.size : Int) == 1) = true := beq_iff_eq.mpr c2
    have c2b1 : ((a0.size : Int) != 1) = false := bne_eq_false_iff_eq.mpr c2
    clear c2
    replace H := Option.bind_eq_some_iff.mp H
    obtain ⟨t126, A30, H⟩ := H
    replace H : (some (t126.toList == ([] : List UInt8))) = some r := H
    have A3 := Aside0.mk A30
    clear A30
    obtain rfl := Option.some.inj H
    go_enter Tryd.func44, Tryd.ntmps44
    go_wp2_with (first | (go_at_call 50; (with_reducible refine (strings_Trim.calls a0 (⟨#[43, 45, 42, 47, 60, 62, 61, 126, 38, 44, 64, 37]⟩ : ByteArray) t126 _ A3.out).mono ?_); rintro e w4 ⟨rfl, hb⟩; have n0_ := Aside0.mk (below_step (by repeat (first | (with_reducible first | exact HB.out | apply below_alloc | apply pw_below_drewN | apply below_drew1) | exact HB.out)) hb); clear HB; have HB := n0_; clear n0_; (try clear hb); (try clear hb2); (try clear hk); (try clear hi)))
    go_ret
    exact ⟨by first | rfl | (simp [errW_none, errW_some] <;> rfl) | (simp [*, errW_none, errW_some] <;> rfl), by repeat (first | (with_reducible first | exact HB.out | apply below_alloc | apply pw_below_drewN | apply below_drew1) | exact HB.out)⟩
  · rw [if_neg c2] at H
    have c2b0 : ((a0.size : Int) == 1) = false := beq_eq_false_iff_ne.mpr c2
    have c2b1 : ((a0.size : Int) != 1) = true := bne_iff_ne.mpr c2
    by_cases c5 : (a0.size : Int) = 2
    · rw [if_pos c5] at H
      have c5b0 : ((a0.size : Int) == 2) = true := beq_iff_eq.mpr c5
      have c5b1 : ((a0.size : Int) != 2) = false := bne_eq_false_iff_eq.mpr c5
      clear c5
      replace H := Option.bind_eq_some_iff.mp H
      obtain ⟨t127, A60, H⟩ := H
      replace H : (some (t127.toList == ([] : List UInt8))) = some r := H
      have A6 := Aside0.mk A60
      clear A60
      obtain rfl := Option.some.inj H
      go_enter Tryd.func44, Tryd.ntmps44
      go_wp2_with (first | (go_at_call 50; (with_reducible refine (strings_Trim.calls a0 (⟨#[43, 45, 42, 47, 60, 62, 61, 126, 38, 44, 64, 37]⟩ : ByteArray) t127 _ A6.out).mono ?_); rintro e w7 ⟨rfl, hb⟩; have n0_ := Aside0.mk (below_step (by repeat (first | (with_reducible first | exact HB.out | apply below_alloc | apply pw_below_drewN | apply below_drew1) | exact HB.out)) hb); clear HB; have HB := n0_; clear n0_; (try clear hb); (try clear hb2); (try clear hk); (try clear hi)))
      go_ret
      exact ⟨by first | rfl | (simp [errW_none, errW_some] <;> rfl) | (simp [*, errW_none, errW_some] <;> rfl), by repeat (first | (with_reducible first | exact HB.out | apply below_alloc | apply pw_below_drewN | apply below_drew1) | exact HB.out)⟩
    · rw [if_neg c5] at H
      have c5b0 : ((a0.size : Int) == 2) = false := beq_eq_false_iff_ne.mpr c5
      have c5b1 : ((a0.size : Int) != 2) = true := bne_iff_ne.mpr c5
      obtain rfl := Option.some.inj H
      go_enter Tryd.func44, Tryd.ntmps44
      go_wp2
      go_ret
      exact ⟨by first | rfl | (simp [errW_none, errW_some] <;> rfl) | (simp [*, errW_none, errW_some] <;> rfl), by repeat (first | (with_reducible first | exact HB.out | apply below_alloc | apply pw_below_drewN | apply below_drew1) | exact HB.out)⟩

/-! ### strings_TrimSuffix: function 54 -/
def strings_TrimSuffix.f (a0 a1 : ByteArray) : Option ByteArray := if a0.size ≤ 9223372036854775807 then some ⟨(Lib.trimSuffix a0.data.toList a1.data.toList).toArray⟩ else none
theorem strings_TrimSuffix.calls (a0 : ByteArray) (a1 : ByteArray) (r : ByteArray) (w : World) (h : strings_TrimSuffix.f a0 a1 = some r) :
    Calls Tryd.prog 54 #[.string a0, .string a1] w fun e w' => e = .returned (.string r) ∧ Drawn0 w w' := by
  unfold strings_TrimSuffix.f at h
  by_cases hs : a0.size ≤ 9223372036854775807
  · rw [if_pos hs] at h
    obtain rfl := Option.some.inj h
    exact (Tryd.strings_TrimSuffix a0 a1 w hs).mono fun e w' ⟨he, hw⟩ => ⟨he, hw ▸ Drawn0.refl _⟩
  · rw [if_neg hs] at h
    cases h


/-! ### name_keywords_1: function 53 -/
def name_keywords_1.f (a0 : ByteArray) : Option (Bool) := (strings_TrimSuffix.f a0 (⟨#[58]⟩ : ByteArray)).bind fun t128 => ((name_lower.f t128).bind fun t129 => (some (!t129)))
set_option maxHeartbeats 8000000 in
set_option maxRecDepth 100000 in
theorem name_keywords_1.calls (a0 : ByteArray) (r : Bool) (w : World) (h : name_keywords_1.f a0 = some r) :
    Calls Tryd.prog 53 #[.string a0] w fun e w' => e = .returned (.bool r) ∧ Below w.heap.size w w' := by
  have HB := Aside0.mk (Below.refl w.heap.size w)
  have H : ((strings_TrimSuffix.f a0 (⟨#[58]⟩ : ByteArray)).bind fun t128 => ((name_lower.f t128).bind fun t129 => (some (!t129)))) = some r := h
  clear h
  replace H := Option.bind_eq_some_iff.mp H
  obtain ⟨t128, A20, H⟩ := H
  replace H : ((name_lower.f t128).bind fun t129 => (some (!t129))) = some r := H
  have A2 := Aside0.mk A20
  clear A20
  replace H := Option.bind_eq_some_iff.mp H
  obtain ⟨t129, A30, H⟩ := H
  replace H : (some (!t129)) = some r := H
  have A3 := Aside0.mk A30
  clear A30
  obtain rfl := Option.some.inj H
  go_enter Tryd.func53, Tryd.ntmps53
  go_wp2_with (first | ((with_reducible refine gate_callee (f := 54) rfl ?_); refine goesL_ (some 4) rfl rfl Tryd.func54 (by kernel_rfl) rfl #[.string a0, .string (⟨#[58]⟩ : ByteArray)] rfl (by (try simp only [List.map_toArray, List.map_cons, List.map_nil]); first | done | rfl | (simp only [List.length_drop, List.length_take]; rfl)) ?_; (with_reducible refine (strings_TrimSuffix.calls a0 (⟨#[58]⟩ : ByteArray) t128 _ A2.out).mono ?_); rintro e w' ⟨rfl, ⟨nd, rfl⟩⟩; refine ⟨_, rfl, ?_⟩) | ((with_reducible refine gate_callee (f := 43) rfl ?_); refine goesL_ (some 5) rfl rfl Tryd.func43 (by kernel_rfl) rfl #[.string t128] rfl (by (try simp only [List.map_toArray, List.map_cons, List.map_nil]); first | done | rfl | (simp only [List.length_drop, List.length_take]; rfl)) ?_; (with_reducible refine (name_lower.calls t128 t129 _ A3.out).mono ?_); rintro e w4 ⟨rfl, hb⟩; refine ⟨_, rfl, ?_⟩; have n0_ := Aside0.mk (below_step (by repeat (first | (with_reducible first | exact HB.out | apply below_alloc | apply pw_below_drewN | apply below_drew1) | exact HB.out)) hb); clear HB; have HB := n0_; clear n0_; (try clear hb); (try clear hb2); (try clear hk); (try clear hi)))
  go_ret
  exact ⟨by first | rfl | (simp [errW_none, errW_some] <;> rfl) | (simp [*, errW_none, errW_some] <;> rfl), by repeat (first | (with_reducible first | exact HB.out | apply below_alloc | apply pw_below_drewN | apply below_drew1) | exact HB.out)⟩

end Go.Proofs.YtmlebgikdegjjaaDoor.PAll
