/- The heap that is read: how many objects, how many words, the room; one object. -/
import Derived.Test.YtiokegmpooildaaOf1
import Derived.Outline
import Derived.Deep.QuietTactic
import Derived.BigQuiet
namespace Go.Proofs.Ytiokegmpooildaa.Hp
open Go.RowKit Go.Proofs.YtiokegmpooildaaW.PrintWords Go.Proofs.YtiokegmpooildaaW.PrintLast Go.Proofs.YtiokegmpooildaaW.PrintMore Go.Proofs.Ytiokegmpooildaa.PAll
set_option linter.unusedVariables false
set_option linter.unusedSimpArgs false
set_option maxHeartbeats 4000000 in
set_option maxRecDepth 100000 in
theorem heap_Len (g : Nat) (l : List S53) (o wd u : Int) (w : World) (hH : HeapC w g l o wd u) :
    Calls Try.prog 23 #[.pointer (some ⟨g, 0, none⟩)] w fun e w' => e = .returned (.int .i64 (l.length : Int)) ∧ Drawn0 w w' := by
  obtain ⟨A, c, h1, h2, h3⟩ := hH
  have hc0 : w.cell? ⟨g, 0, none⟩ = some (.slice A l.length c) := (blk_cell h1 0).trans rfl
  clear h1 h2 h3
  go_enter Try.func23, Try.ntmps23
  go_wp2_with (fail)
  go_ret
  exact ⟨rfl, Drawn0.refl _⟩
set_option maxHeartbeats 4000000 in
set_option maxRecDepth 100000 in
theorem heap_Words (g : Nat) (l : List S53) (o wd u : Int) (w : World) (hH : HeapC w g l o wd u) :
    Calls Try.prog 24 #[.pointer (some ⟨g, 0, none⟩)] w fun e w' => e = .returned (.int .i64 u) ∧ Drawn0 w w' := by
  obtain ⟨A, c, h1, h2, h3⟩ := hH
  have hc0 : w.cell? ⟨g, 3, none⟩ = some (.int .i64 u) := (blk_cell h1 3).trans rfl
  clear h1 h2 h3
  go_enter Try.func24, Try.ntmps24
  go_wp2_with (fail)
  go_ret
  exact ⟨rfl, Drawn0.refl _⟩
set_option maxHeartbeats 4000000 in
set_option maxRecDepth 100000 in
theorem heap_Room (g : Nat) (l : List S53) (o wd u : Int) (w : World) (hH : HeapC w g l o wd u) :
    Calls Try.prog 22 #[.pointer (some ⟨g, 0, none⟩)] w fun e w' => e = .returned (.tuple #[.int .i64 o, .int .i64 wd]) ∧ Drawn0 w w' := by
  obtain ⟨A, c, h1, h2, h3⟩ := hH
  have hc0 : w.cell? ⟨g, 1, none⟩ = some (.int .i64 o) := (blk_cell h1 1).trans rfl
  have hc1 : w.cell? ⟨g, 2, none⟩ = some (.int .i64 wd) := (blk_cell h1 2).trans rfl
  clear h1 h2 h3
  go_enter Try.func22, Try.ntmps22
  go_wp2_with (fail)
  go_quiet (fail)
  go_wp2
  go_ret2
  exact ⟨rfl, by repeat (first | exact Drawn0.refl _ | apply Drawn0.step)⟩
end Go.Proofs.Ytiokegmpooildaa.Hp
