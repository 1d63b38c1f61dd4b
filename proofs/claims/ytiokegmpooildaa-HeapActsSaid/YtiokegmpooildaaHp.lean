/- The heap that is read: its small methods. -/
import Derived.Test.YtiokegmpooildaaPAllx1
import Derived.Outline
import Derived.Deep.QuietTactic
import Derived.BigQuiet
namespace Go.Proofs.Ytiokegmpooildaa.Hp
open Go.RowKit Go.Proofs.YtiokegmpooildaaW.PrintWords Go.Proofs.YtiokegmpooildaaW.PrintLast Go.Proofs.YtiokegmpooildaaW.PrintMore Go.Proofs.Ytiokegmpooildaa.PAll
set_option linter.unusedVariables false
set_option linter.unusedSimpArgs false
/-- A heap at block g of W, as it is read: its objects, its room, its words. -/
def HeapC (W : World) (g : Nat) (l : List S53) (o wd u : Int) : Prop :=
  ∃ A c, W.heap[g]? = some (.cells #[.slice A l.length c, .int .i64 o, .int .i64 wd, .int .i64 u] 94 (0, 0)) ∧ l.length ≤ c ∧ Kd.C k53 W A l.length l
theorem HeapC.below {W W1 : World} {g : Nat} {l : List S53} {o wd u : Int} (h : HeapC W g l o wd u) (hb : Below W.heap.size W W1) : HeapC W1 g l o wd u := by
  obtain ⟨A, c, h1, h2, h3⟩ := h
  exact ⟨A, c, (hb.block g (blk_lt h1)).trans h1, h2, Kd.C_below h3 hb⟩

set_option maxHeartbeats 4000000 in
set_option maxRecDepth 100000 in
theorem heap_at (g : Nat) (a : Int) (l : List S53) (o wd u : Int) (i : Int) (ok : Bool) (w : World) (hH : HeapC w g l o wd u) (hi : word_Index.f a = some (i, ok)) :
    Calls Try.prog 68 #[.pointer (some ⟨g, 0, none⟩), .int .u64 a] w fun e w' => e = .returned (.tuple #[.int .i64 i, .bool (ok && decide (i < (l.length : Int)))]) ∧ Drawn0 w w' := by
  obtain ⟨A, c, h1, h2, h3⟩ := hH
  have hc0 : w.cell? ⟨g, 0, none⟩ = some (.slice A l.length c) := (blk_cell h1 0).trans rfl
  clear h1 h2 h3
  have HI := Aside0.mk hi
  clear hi
  cases ok with
  | false =>
    go_enter Try.func68, Try.ntmps68
    go_wp2_with (first | ((with_reducible refine gate_callee (f := 77) rfl ?_); refine goesL_ (some 10) rfl rfl Try.func77 (by kernel_rfl) rfl #[.int .u64 a] rfl (by (try simp only [List.map_toArray, List.map_cons, List.map_nil]); first | done | rfl) ?_; (with_reducible refine (word_Index.calls a i false _ HI.out).mono ?_); rintro e w' ⟨rfl, ⟨nd, rfl⟩⟩; refine ⟨_, rfl, ?_⟩))
    go_quiet (fail)
    go_wp2
    go_ret2
    exact ⟨rfl, by repeat (first | exact Drawn0.refl _ | apply Drawn0.step)⟩
  | true =>
    go_enter Try.func68, Try.ntmps68
    go_wp2_with (first | ((with_reducible refine gate_callee (f := 77) rfl ?_); refine goesL_ (some 10) rfl rfl Try.func77 (by kernel_rfl) rfl #[.int .u64 a] rfl (by (try simp only [List.map_toArray, List.map_cons, List.map_nil]); first | done | rfl) ?_; (with_reducible refine (word_Index.calls a i true _ HI.out).mono ?_); rintro e w' ⟨rfl, ⟨nd, rfl⟩⟩; refine ⟨_, rfl, ?_⟩))
    go_quiet (fail)
    go_wp2
    go_ret2
    exact ⟨by simp, by repeat (first | exact Drawn0.refl _ | apply Drawn0.step)⟩
end Go.Proofs.Ytiokegmpooildaa.Hp
