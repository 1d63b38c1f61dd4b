/- What came in, opened: words; numbers. -/
import Derived.Test.YtiokegmpooildaaOp
namespace Go.Proofs.Ytiokegmpooildaa.Hp
open Go.RowKit Go.Proofs.YtiokegmpooildaaW.PrintWords Go.Proofs.YtiokegmpooildaaW.PrintLast Go.Proofs.YtiokegmpooildaaW.PrintMore Go.Proofs.Ytiokegmpooildaa.PAll
open Go.ChangeShapes Go.WideShapes
set_option linter.unusedVariables false
set_option linter.unusedSimpArgs false
section
variable {H : Type} {enc : TypeId × Value → H} {w : World} {base : Nat} {spare : Nat → Bool} {held : Bool}
/-- []api.Word. -/
theorem open_words {fuel : Nat} {cs : List Value} {y : DataW H × List MemPlace} (h : DataW.trod enc Try.prog w base spare held fuel 50 cs = some y) :
    ∃ A c l, cs = [.slice A l.length c] ∧ l.length ≤ c ∧ Kd.C (Kd.int .u64) w A l.length l ∧ (∀ a ∈ l, W64 a) ∧ l.length ≤ maxLen := by
  obtain ⟨A, c, xs, e, l1, C1, g1, m1⟩ := open_ints_C .u64 Try.underlying50 Try.underlying36 (by kernel_rfl) h
  exact ⟨A, c, xs, e, l1, C1, fun a ha => w64_of (g1 a ha), m1⟩
/-- []int. -/
theorem open_nums {fuel : Nat} {cs : List Value} {y : DataW H × List MemPlace} (h : DataW.trod enc Try.prog w base spare held fuel 65 cs = some y) :
    ∃ A c l, cs = [.slice A l.length c] ∧ l.length ≤ c ∧ Kd.C (Kd.int .i64) w A l.length l ∧ (∀ a ∈ l, (Lit.int .i64 a).wf = true) ∧ l.length ≤ maxLen :=
  open_ints_C .i64 Try.underlying65 Try.underlying3 (by kernel_rfl) h
end
end Go.Proofs.Ytiokegmpooildaa.Hp
