/- The heap that is read: an object's class, size, slots; a heap with no room. -/
import Derived.Test.YtiokegmpooildaaOj
import Derived.Test.YtiokegmpooildaaOf1
namespace Go.Proofs.Ytiokegmpooildaa.Hp
open Go.RowKit Go.Proofs.YtiokegmpooildaaW.PrintWords Go.Proofs.YtiokegmpooildaaW.PrintLast Go.Proofs.YtiokegmpooildaaW.PrintMore Go.Proofs.Ytiokegmpooildaa.PAll
set_option linter.unusedVariables false
set_option linter.unusedSimpArgs false
set_option maxHeartbeats 8000000 in
set_option maxRecDepth 100000 in
theorem heap_Class (g : Nat) (a : Int) (l : List S53) (o wd u : Int) (w : World) (hH : HeapC w g l o wd u) (hl : l.length ≤ 5000) (ha : W64 a) :
    Calls Try.prog 48 #[.pointer (some ⟨g, 0, none⟩), .int .u64 a] w fun e w' => e = .returned (.tuple #[.int .u64 (objectL l a).f0, .bool (thereP l.length a)]) ∧ Drawn0 w w' := by
  obtain ⟨i, ok, hi, hth, hix, hi0⟩ := index_tells ha l.length hl
  have HI := Aside0.mk hi
  have HT := Aside0.mk hth
  have HH := Aside0.mk hH
  clear hi hth
  cases ht : thereP l.length a with
  | false =>
    rw [ht] at HT
    have HE : objectL l a = ⟨0, [], []⟩ := by unfold objectL; rw [ht]; rfl
    rw [HE]
    clear hH ht hix HE
    go_enter Try.func48, Try.ntmps48
    go_wp2_with (first | (go_at_call 68; (with_reducible refine (heap_at g a l o wd u _ _ _ (HH.out.below (Drawn0.below (by repeat (first | exact Drawn0.refl _ | apply Drawn0.step)))) HI.out).mono ?_); rintro e w' ⟨rfl, ⟨nd, rfl⟩⟩; rw [HT.out]))
    go_ret2
    exact ⟨rfl, (by repeat (first | exact Drawn0.refl _ | apply Drawn0.step))⟩
  | true =>
    rw [ht] at HT
    obtain rfl := hix ht
    have HE : objectL l a = rd_T53 l (a / 2) := by unfold objectL; rw [ht]; rfl
    rw [HE]
    have hta := thereP_at ht
    obtain ⟨A, c, h1, h2, h3⟩ := hH
    have hc0 : w.cell? ⟨g, 0, none⟩ = some (.slice A l.length c) := (blk_cell h1 0).trans rfl
    obtain ⟨ad, A1, c1, A2, c2, e0, hx0, hx1, hx2, hl1, hi1, hl2, hi2⟩ := at_T53 h3 (a / 2) hi0 hta.2
    cases e0
    have p0 : (0 ≤ a / 2) = True := eq_true hi0
    have p1 : (a / 2 < (l.length : Int)) = True := eq_true hta.2
    clear h1 h2 h3 hl1 hi1 hl2 hi2 ht hix HE
    go_enter Try.func48, Try.ntmps48
    go_wp2_with (first | (go_at_call 68; (with_reducible refine (heap_at g a l o wd u _ _ _ (HH.out.below (Drawn0.below (by repeat (first | exact Drawn0.refl _ | apply Drawn0.step)))) HI.out).mono ?_); rintro e w' ⟨rfl, ⟨nd, rfl⟩⟩; rw [HT.out]))
    repeat (go_quiet (fail); try go_wp2)
    go_ret2
    exact ⟨rfl, (by repeat (first | exact Drawn0.refl _ | apply Drawn0.step))⟩

set_option maxHeartbeats 8000000 in
set_option maxRecDepth 100000 in
theorem heap_Size (g : Nat) (a : Int) (l : List S53) (o wd u : Int) (w : World) (hH : HeapC w g l o wd u) (hl : l.length ≤ 5000) (ha : W64 a) :
    Calls Try.prog 50 #[.pointer (some ⟨g, 0, none⟩), .int .u64 a] w fun e w' => e = .returned (.int .i64 ((objectL l a).f1.length : Int)) ∧ Drawn0 w w' := by
  obtain ⟨i, ok, hi, hth, hix, hi0⟩ := index_tells ha l.length hl
  have HI := Aside0.mk hi
  have HT := Aside0.mk hth
  have HH := Aside0.mk hH
  clear hi hth
  cases ht : thereP l.length a with
  | false =>
    rw [ht] at HT
    have HE : objectL l a = ⟨0, [], []⟩ := by unfold objectL; rw [ht]; rfl
    rw [HE]
    clear hH ht hix HE
    go_enter Try.func50, Try.ntmps50
    go_wp2_with (first | (go_at_call 68; (with_reducible refine (heap_at g a l o wd u _ _ _ (HH.out.below (Drawn0.below (by repeat (first | exact Drawn0.refl _ | apply Drawn0.step)))) HI.out).mono ?_); rintro e w' ⟨rfl, ⟨nd, rfl⟩⟩; rw [HT.out]))
    go_ret
    exact ⟨rfl, (by repeat (first | exact Drawn0.refl _ | apply Drawn0.step))⟩
  | true =>
    rw [ht] at HT
    obtain rfl := hix ht
    have HE : objectL l a = rd_T53 l (a / 2) := by unfold objectL; rw [ht]; rfl
    rw [HE]
    have hta := thereP_at ht
    obtain ⟨A, c, h1, h2, h3⟩ := hH
    have hc0 : w.cell? ⟨g, 0, none⟩ = some (.slice A l.length c) := (blk_cell h1 0).trans rfl
    obtain ⟨ad, A1, c1, A2, c2, e0, hx0, hx1, hx2, hl1, hi1, hl2, hi2⟩ := at_T53 h3 (a / 2) hi0 hta.2
    cases e0
    have p0 : (0 ≤ a / 2) = True := eq_true hi0
    have p1 : (a / 2 < (l.length : Int)) = True := eq_true hta.2
    clear h1 h2 h3 hl1 hi1 hl2 hi2 ht hix HE
    go_enter Try.func50, Try.ntmps50
    go_wp2_with (first | (go_at_call 68; (with_reducible refine (heap_at g a l o wd u _ _ _ (HH.out.below (Drawn0.below (by repeat (first | exact Drawn0.refl _ | apply Drawn0.step)))) HI.out).mono ?_); rintro e w' ⟨rfl, ⟨nd, rfl⟩⟩; rw [HT.out]))
    repeat (go_quiet (fail); try go_wp2)
    go_ret
    exact ⟨rfl, (by repeat (first | exact Drawn0.refl _ | apply Drawn0.step))⟩

/-- What stops a slot's use. -/
def slotErr (l : List S53) (a i : Int) : Int := if thereP l.length a = true then (if 0 ≤ i ∧ i < ((objectL l a).f1.length : Int) then 0 else 2) else 61
set_option maxHeartbeats 8000000 in
set_option maxRecDepth 100000 in
theorem heap_slot (g : Nat) (a i : Int) (l : List S53) (o wd u : Int) (w : World) (hH : HeapC w g l o wd u) (hl : l.length ≤ 5000) (ha : W64 a) :
    Calls Try.prog 67 #[.pointer (some ⟨g, 0, none⟩), .int .u64 a, .int .i64 i] w fun e w' => e = .returned (.int .i64 (slotErr l a i)) ∧ Drawn0 w w' := by
  have HH := Aside0.mk hH
  have HL := Aside0.mk hl
  have HA := Aside0.mk ha
  clear hH hl ha
  obtain ⟨n, hn⟩ : ∃ n : Int, n = ((objectL l a).f1.length : Int) := ⟨_, rfl⟩
  have HLN := Aside0.mk hn.symm
  cases ht : thereP l.length a with
  | false =>
    have HT := Aside0.mk ht
    have HE : slotErr l a i = 61 := by unfold slotErr; rw [ht]; rfl
    rw [HE]
    clear ht HE hn
    go_enter Try.func67, Try.ntmps67
    go_wp2_with (first | (go_at_call 53; (with_reducible refine (heap_there g a l o wd u _ (HH.out.below (Drawn0.below (by repeat (first | exact Drawn0.refl _ | apply Drawn0.step)))) HA.out HL.out).mono ?_); rintro e w' ⟨rfl, ⟨nd, rfl⟩⟩; rw [HT.out]))
    go_ret
    exact ⟨rfl, (by repeat (first | exact Drawn0.refl _ | apply Drawn0.step))⟩
  | true =>
    have HT := Aside0.mk ht
    by_cases h0 : i < 0
    · have HE : slotErr l a i = 2 := by unfold slotErr; rw [ht, if_pos rfl, if_neg (by omega)]
      rw [HE]
      have b0 : decide (i < 0) = true := decide_eq_true h0
      clear ht HE hn
      go_enter Try.func67, Try.ntmps67
      go_wp2_with (first | (go_at_call 53; (with_reducible refine (heap_there g a l o wd u _ (HH.out.below (Drawn0.below (by repeat (first | exact Drawn0.refl _ | apply Drawn0.step)))) HA.out HL.out).mono ?_); rintro e w' ⟨rfl, ⟨nd, rfl⟩⟩; rw [HT.out]) | (go_at_call 50; (with_reducible refine (heap_Size g a l o wd u _ (HH.out.below (Drawn0.below (by repeat (first | exact Drawn0.refl _ | apply Drawn0.step)))) HL.out HA.out).mono ?_); rintro e w' ⟨rfl, ⟨nd, rfl⟩⟩; rw [HLN.out]))
      go_ret
      exact ⟨rfl, (by repeat (first | exact Drawn0.refl _ | apply Drawn0.step))⟩
    · have b0 : decide (i < 0) = false := decide_eq_false h0
      by_cases h1 : n ≤ i
      · have HE : slotErr l a i = 2 := by unfold slotErr; rw [ht, if_pos rfl, if_neg (by omega)]
        rw [HE]
        have b1 : decide (n ≤ i) = true := decide_eq_true h1
        clear ht HE hn h0 h1
        go_enter Try.func67, Try.ntmps67
        go_wp2_with (first | (go_at_call 53; (with_reducible refine (heap_there g a l o wd u _ (HH.out.below (Drawn0.below (by repeat (first | exact Drawn0.refl _ | apply Drawn0.step)))) HA.out HL.out).mono ?_); rintro e w' ⟨rfl, ⟨nd, rfl⟩⟩; rw [HT.out]) | (go_at_call 50; (with_reducible refine (heap_Size g a l o wd u _ (HH.out.below (Drawn0.below (by repeat (first | exact Drawn0.refl _ | apply Drawn0.step)))) HL.out HA.out).mono ?_); rintro e w' ⟨rfl, ⟨nd, rfl⟩⟩; rw [HLN.out]))
        go_ret
        exact ⟨rfl, (by repeat (first | exact Drawn0.refl _ | apply Drawn0.step))⟩
      · have HE : slotErr l a i = 0 := by unfold slotErr; rw [ht, if_pos rfl, if_pos (by omega)]
        rw [HE]
        have b1 : decide (n ≤ i) = false := decide_eq_false h1
        clear ht HE hn h0 h1
        go_enter Try.func67, Try.ntmps67
        go_wp2_with (first | (go_at_call 53; (with_reducible refine (heap_there g a l o wd u _ (HH.out.below (Drawn0.below (by repeat (first | exact Drawn0.refl _ | apply Drawn0.step)))) HA.out HL.out).mono ?_); rintro e w' ⟨rfl, ⟨nd, rfl⟩⟩; rw [HT.out]) | (go_at_call 50; (with_reducible refine (heap_Size g a l o wd u _ (HH.out.below (Drawn0.below (by repeat (first | exact Drawn0.refl _ | apply Drawn0.step)))) HL.out HA.out).mono ?_); rintro e w' ⟨rfl, ⟨nd, rfl⟩⟩; rw [HLN.out]))
        go_ret
        exact ⟨rfl, (by repeat (first | exact Drawn0.refl _ | apply Drawn0.step))⟩
set_option maxHeartbeats 8000000 in
set_option maxRecDepth 100000 in
theorem heap_Get (g : Nat) (a i : Int) (l : List S53) (o wd u : Int) (w : World) (hH : HeapC w g l o wd u) (hl : l.length ≤ 5000) (ha : W64 a) :
    Calls Try.prog 45 #[.pointer (some ⟨g, 0, none⟩), .int .u64 a, .int .i64 i] w fun e w' => e = .returned (.tuple #[.int .u64 (if slotErr l a i = 0 then rd (objectL l a).f1 i else 0), .int .i64 (slotErr l a i)]) ∧ Drawn0 w w' := by
  have HH := Aside0.mk hH
  have HL := Aside0.mk hl
  have HA := Aside0.mk ha
  by_cases hz : slotErr l a i = 0
  · have hz' := hz
    unfold slotErr at hz'
    have ht : thereP l.length a = true := by
      cases ht : thereP l.length a with
      | true => rfl
      | false => rw [ht] at hz'; simp at hz'
    rw [if_pos ht] at hz'
    have hi : 0 ≤ i ∧ i < ((objectL l a).f1.length : Int) := by
      by_cases hi : 0 ≤ i ∧ i < ((objectL l a).f1.length : Int)
      · exact hi
      · rw [if_neg hi] at hz'; exact absurd hz' (by decide)
    clear hz'
    have HSE := Aside0.mk hz
    rw [hz, if_pos rfl]
    have HEO : objectL l a = rd_T53 l (a / 2) := by unfold objectL; rw [ht]; rfl
    rw [HEO] at hi ⊢
    obtain ⟨j, ok, hj, hth, hjx, hj0⟩ := index_tells ha l.length hl
    rw [ht] at hth
    obtain rfl := hjx ht
    have HI := Aside0.mk hj
    have HT := Aside0.mk hth
    have hta := thereP_at ht
    obtain ⟨A, c, h1, h2, h3⟩ := hH
    have hc0 : w.cell? ⟨g, 0, none⟩ = some (.slice A l.length c) := (blk_cell h1 0).trans rfl
    obtain ⟨ad, A1, c1, A2, c2, e0, hx0, hx1, hx2, hl1, hi1, hl2, hi2⟩ := at_T53 h3 (a / 2) hj0 hta.2
    cases e0
    obtain ⟨bd, e1, hy0⟩ := Kd.at_int hi1 i hi.1 hi.2
    cases e1
    have p0 : (0 ≤ a / 2) = True := eq_true hj0
    have p1 : (a / 2 < (l.length : Int)) = True := eq_true hta.2
    have p2 : (0 ≤ i) = True := eq_true hi.1
    have p3 : (i < ((rd_T53 l (a / 2)).f1.length : Int)) = True := eq_true hi.2
    clear h1 h2 h3 hl1 hi1 hl2 hi2 ht hth hj hjx HEO hz hl ha hi hta
    go_enter Try.func45, Try.ntmps45
    go_wp2_with (first | (go_at_call 67; (with_reducible refine (heap_slot g a i l o wd u _ (HH.out.below (Drawn0.below (by repeat (first | exact Drawn0.refl _ | apply Drawn0.step)))) HL.out HA.out).mono ?_); rintro e w' ⟨rfl, ⟨nd, rfl⟩⟩; rw [HSE.out]) | (go_at_call 68; (with_reducible refine (heap_at g a l o wd u _ _ _ (HH.out.below (Drawn0.below (by repeat (first | exact Drawn0.refl _ | apply Drawn0.step)))) HI.out).mono ?_); rintro e w' ⟨rfl, ⟨nd, rfl⟩⟩; rw [HT.out]))
    repeat (go_quiet (fail); try go_wp2)
    go_ret2
    exact ⟨rfl, (by repeat (first | exact Drawn0.refl _ | apply Drawn0.step))⟩
  · rw [if_neg hz]
    obtain ⟨n, hn⟩ : ∃ n : Int, n = slotErr l a i := ⟨_, rfl⟩
    rw [← hn] at hz ⊢
    have HSE := Aside0.mk hn.symm
    have z1 : (n == 0) = false := by simpa using hz
    have z2 : (n != 0) = true := by simpa using hz
    clear hz hn hH hl ha
    go_enter Try.func45, Try.ntmps45
    go_wp2_with (first | (go_at_call 67; (with_reducible refine (heap_slot g a i l o wd u _ (HH.out.below (Drawn0.below (by repeat (first | exact Drawn0.refl _ | apply Drawn0.step)))) HL.out HA.out).mono ?_); rintro e w' ⟨rfl, ⟨nd, rfl⟩⟩; rw [HSE.out]))
    repeat (go_quiet (fail); try go_wp2)
    go_ret2
    exact ⟨rfl, (by repeat (first | exact Drawn0.refl _ | apply Drawn0.step))⟩
end Go.Proofs.Ytiokegmpooildaa.Hp
