/- The heap that is read: which words may stand in it; the closure that asks it; slices.ContainsFunc by that closure. -/
import Derived.Test.YtiokegmpooildaaHp
import Derived.Test.YtiokegmpooildaaPAllx3
import Derived.Outline
import Derived.Laws.BitsAllLaws
import Derived.WalkSmall
namespace Go.Proofs.Ytiokegmpooildaa.Hp
open Go.RowKit Go.Proofs.YtiokegmpooildaaW.PrintWords Go.Proofs.YtiokegmpooildaaW.PrintLast Go.Proofs.YtiokegmpooildaaW.PrintMore Go.Proofs.Ytiokegmpooildaa.PAll
set_option linter.unusedVariables false
set_option linter.unusedSimpArgs false
/-- A word in its range. -/
def W64 (a : Int) : Prop := 0 ≤ a ∧ a < 18446744073709551616
/-- A reference to one of n objects. -/
def thereP (n : Nat) (a : Int) : Bool := decide (a % 2 = 0 ∧ a / 2 < (n : Int))
def mayP (n : Nat) (a : Int) : Bool := decide (a % 2 = 1) || thereP n a
theorem index_yes {a : Int} (h : W64 a) (h1 : a % 2 = 0) (h2 : a < 8589934592) : word_Index.f a = some (a / 2, true) := by
  unfold W64 at h
  unfold word_Index.f word_IsRef.f
  rw [and_one_u64 a h.1 (by omega), if_pos h1, decide_eq_true h2]
  simp only [Option.bind_some, if_true]
  congr 2
  unfold wrap64
  omega
theorem index_no {a : Int} (h : W64 a) (h1 : ¬ (a % 2 = 0 ∧ a < 8589934592)) : word_Index.f a = some (0, false) := by
  unfold W64 at h
  unfold word_Index.f word_IsRef.f
  rw [and_one_u64 a h.1 (by omega)]
  by_cases h2 : a % 2 = 0
  · rw [if_pos h2, decide_eq_false (by omega)]
    simp
  · rw [if_neg h2]
    simp
/-- What 'at' tells of a word. -/
theorem index_tells {a : Int} (h : W64 a) (n : Nat) (hn : n ≤ 5000) : ∃ i ok, word_Index.f a = some (i, ok) ∧ (ok && decide (i < (n : Int))) = thereP n a ∧ (thereP n a = true → i = a / 2) ∧ 0 ≤ i := by
  have h' := h
  unfold W64 at h'
  by_cases h1 : a % 2 = 0 ∧ a < 8589934592
  · refine ⟨a / 2, true, index_yes h h1.1 h1.2, ?_, fun _ => rfl, by omega⟩
    unfold thereP
    rw [Bool.true_and, decide_eq_decide]
    omega
  · refine ⟨0, false, index_no h h1, ?_, fun h2 => ?_, by omega⟩
    · unfold thereP
      rw [Bool.false_and, eq_comm, decide_eq_false_iff_not]
      omega
    · unfold thereP at h2
      rw [decide_eq_true_eq] at h2
      omega
theorem isint_f {a : Int} (h : W64 a) : word_IsInt.f a = some (decide (a % 2 = 1)) := by
  unfold W64 at h
  unfold word_IsInt.f
  rw [and_one_u64 a h.1 (by omega)]
  rfl

set_option maxHeartbeats 4000000 in
set_option maxRecDepth 100000 in
theorem heap_there (g : Nat) (a : Int) (l : List S53) (o wd u : Int) (w : World) (hH : HeapC w g l o wd u) (ha : W64 a) (hl : l.length ≤ 5000) :
    Calls Try.prog 53 #[.pointer (some ⟨g, 0, none⟩), .int .u64 a] w fun e w' => e = .returned (.bool (thereP l.length a)) ∧ Drawn0 w w' := by
  obtain ⟨i, ok, hi, ht, _, _⟩ := index_tells ha l.length hl
  have HI := Aside0.mk hi
  have HH := Aside0.mk hH
  have HT := Aside0.mk ht
  clear hi hH ht
  go_enter Try.func53, Try.ntmps53
  go_wp2_with (first | ((with_reducible refine gate_callee (f := 68) rfl ?_); refine goesL_ (some 10) rfl rfl Try.func68 (by kernel_rfl) rfl #[.pointer (some ⟨g, 0, none⟩), .int .u64 a] rfl (by (try simp only [List.map_toArray, List.map_cons, List.map_nil]); first | done | rfl) ?_; (with_reducible refine (heap_at g a l o wd u i ok _ HH.out HI.out).mono ?_); rintro e w' ⟨rfl, ⟨nd, rfl⟩⟩; refine ⟨_, rfl, ?_⟩; rw [HT.out]))
  go_ret
  exact ⟨rfl, by repeat (first | exact Drawn0.refl _ | apply Drawn0.step)⟩

set_option maxHeartbeats 4000000 in
set_option maxRecDepth 100000 in
theorem heap_may (g : Nat) (a : Int) (l : List S53) (o wd u : Int) (w : World) (hH : HeapC w g l o wd u) (ha : W64 a) (hl : l.length ≤ 5000) :
    Calls Try.prog 56 #[.pointer (some ⟨g, 0, none⟩), .int .u64 a] w fun e w' => e = .returned (.bool (mayP l.length a)) ∧ Drawn0 w w' := by
  have HI := Aside0.mk (isint_f ha)
  have HH := Aside0.mk hH
  have HA := Aside0.mk ha
  have HL := Aside0.mk hl
  clear hH ha hl
  unfold mayP
  cases hb : decide (a % 2 = 1) with
  | true =>
    rw [hb] at HI
    clear hb
    go_enter Try.func56, Try.ntmps56
    go_wp2_with (first | ((with_reducible refine gate_callee (f := 75) rfl ?_); refine goesL_ (some 6) rfl rfl Try.func75 (by kernel_rfl) rfl #[.int .u64 a] rfl (by (try simp only [List.map_toArray, List.map_cons, List.map_nil]); first | done | rfl) ?_; (with_reducible refine (word_IsInt.calls a true _ HI.out).mono ?_); rintro e w' ⟨rfl, ⟨nd, rfl⟩⟩; refine ⟨_, rfl, ?_⟩))
    go_ret
    exact ⟨rfl, by repeat (first | exact Drawn0.refl _ | apply Drawn0.step)⟩
  | false =>
    rw [hb] at HI
    clear hb
    go_enter Try.func56, Try.ntmps56
    go_wp2_with (first | ((with_reducible refine gate_callee (f := 75) rfl ?_); refine goesL_ (some 6) rfl rfl Try.func75 (by kernel_rfl) rfl #[.int .u64 a] rfl (by (try simp only [List.map_toArray, List.map_cons, List.map_nil]); first | done | rfl) ?_; (with_reducible refine (word_IsInt.calls a false _ HI.out).mono ?_); rintro e w' ⟨rfl, ⟨nd, rfl⟩⟩; refine ⟨_, rfl, ?_⟩) | (go_at_call 53; (with_reducible refine (heap_there g a l o wd u _ (HH.out.below (Drawn0.below (by repeat (first | exact Drawn0.refl _ | apply Drawn0.step)))) HA.out HL.out).mono ?_); rintro e w' ⟨rfl, ⟨nd, rfl⟩⟩))
    go_ret
    exact ⟨by simp, by repeat (first | exact Drawn0.refl _ | apply Drawn0.step)⟩

set_option maxHeartbeats 4000000 in
set_option maxRecDepth 100000 in
theorem of_asks (hb g : Nat) (a : Int) (l : List S53) (o wd u : Int) (w : World) (hc : w.cell? ⟨hb, 0, none⟩ = some (.pointer (some ⟨g, 0, none⟩))) (hH : HeapC w g l o wd u) (ha : W64 a) (hl : l.length ≤ 5000) :
    Calls Try.prog 55 #[.int .u64 a, .pointer (some ⟨hb, 0, none⟩)] w fun e w' => e = .returned (.bool (!mayP l.length a)) ∧ Drawn0 w w' := by
  have HH := Aside0.mk hH
  have HA := Aside0.mk ha
  have HL := Aside0.mk hl
  clear hH ha hl
  go_enter Try.func55, Try.ntmps55
  go_wp2_with (first | ((with_reducible refine gate_callee (f := 56) rfl ?_); refine goesL_ (some 6) rfl rfl Try.func56 (by kernel_rfl) rfl #[.pointer (some ⟨g, 0, none⟩), .int .u64 a] rfl (by (try simp only [List.map_toArray, List.map_cons, List.map_nil]); first | done | rfl) ?_; (with_reducible refine (heap_may g a l o wd u _ HH.out HA.out HL.out).mono ?_); rintro e w' ⟨rfl, ⟨nd, rfl⟩⟩; refine ⟨_, rfl, ?_⟩))
  go_ret
  exact ⟨rfl, by repeat (first | exact Drawn0.refl _ | apply Drawn0.step)⟩
end Go.Proofs.Ytiokegmpooildaa.Hp
