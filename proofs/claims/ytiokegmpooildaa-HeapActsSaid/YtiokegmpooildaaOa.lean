/- What came in, opened: lists of acts. -/
import Derived.Test.YtiokegmpooildaaOp
import Derived.Test.YtiokegmpooildaaHi
namespace Go.Proofs.Ytiokegmpooildaa.Hp
open Go.RowKit Go.Proofs.YtiokegmpooildaaW.PrintWords Go.Proofs.YtiokegmpooildaaW.PrintLast Go.Proofs.YtiokegmpooildaaW.PrintMore Go.Proofs.Ytiokegmpooildaa.PAll
open Go.ChangeShapes Go.WideShapes
set_option linter.unusedVariables false
set_option linter.unusedSimpArgs false
theorem len5 {α : Type} {cs : List α} (h : cs.length = 5) : ∃ a b c d e, cs = [a, b, c, d, e] := by
  match cs, h with
  | [a, b, c, d, e], _ => exact ⟨a, b, c, d, e, rfl⟩
instance : Inhabited S58 := ⟨z58⟩
theorem c3 : Try.prog.cellsOf 3 = 1 := by kernel_rfl
theorem i64_of {a : Int} (h : (Lit.int .i64 a).wf = true) : I64 a := by
  unfold I64
  simp only [Lit.wf, Bool.and_eq_true, decide_eq_true_eq] at h
  have h1 : (-9223372036854775808 : Int) ≤ a := h.1
  have h2 : a ≤ 9223372036854775807 := h.2
  omega
section
variable {H : Type} {enc : TypeId × Value → H} {w : World} {base : Nat} {spare : Nat → Bool} {held : Bool}
/-- []Act. -/
theorem open_acts {fuel : Nat} {cs : List Value} {y : DataW H × List MemPlace} (h : DataW.trod enc Try.prog w base spare held fuel 54 cs = some y) :
    ∃ A c l, cs = [.slice A l.length c] ∧ l.length ≤ c ∧ Kd.C k58 w A l.length l ∧ ActsW l ∧ l.length ≤ maxLen :=
  open_C k58 Try.underlying54 (by kernel_rfl) (fun x : S58 => I64 x.f0 ∧ W64 x.f1 ∧ W64 x.f2 ∧ I64 x.f3) (fun n cs y hl hy => by
    obtain ⟨xs, m, _, _, _, hxl, hf⟩ := DataW.trod_struct Try.underlying58 hy
    obtain ⟨v0, v1, v2, v3, v4, rfl⟩ := len5 hl
    obtain ⟨y0, y1, y2, y3, y4, rfl⟩ := len5 hxl
    have t0 := hf 0 _ rfl
    have t1 := hf 1 _ rfl
    have t2 := hf 2 _ rfl
    have t3 := hf 3 _ rfl
    have t4 := hf 4 _ rfl
    obtain ⟨a0, e0, _, hw0⟩ := DataW.trod_int Try.underlying3 t0
    obtain ⟨a1, e1, _, hw1⟩ := DataW.trod_int Try.underlying36 t1
    obtain ⟨a2, e2, _, hw2⟩ := DataW.trod_int Try.underlying36 t2
    obtain ⟨a3, e3, _, hw3⟩ := DataW.trod_int Try.underlying3 t3
    obtain ⟨A4, c4, bs, e4, l4, C4, _, _⟩ := open_ints_C .u8 Try.underlying51 Try.underlying5 (by kernel_rfl) t4
    have q0 : v0 = .int .i64 a0 := by
      have : ([v0, v1, v2, v3, v4].drop 0).take (Try.prog.cellsOf 3) = [.int .i64 a0] := e0
      rw [c3] at this
      exact (List.cons.inj this).1
    have q1 : v1 = .int .u64 a1 := by
      have : ([v0, v1, v2, v3, v4].drop 1).take (Try.prog.cellsOf 36) = [.int .u64 a1] := e1
      rw [c36] at this
      exact (List.cons.inj this).1
    have q2 : v2 = .int .u64 a2 := by
      have : ([v0, v1, v2, v3, v4].drop 2).take (Try.prog.cellsOf 36) = [.int .u64 a2] := e2
      rw [c36] at this
      exact (List.cons.inj this).1
    have q3 : v3 = .int .i64 a3 := by
      have : ([v0, v1, v2, v3, v4].drop 3).take (Try.prog.cellsOf 3) = [.int .i64 a3] := e3
      rw [c3] at this
      exact (List.cons.inj this).1
    have q4 : v4 = .slice A4 bs.length c4 := by
      have : ([v0, v1, v2, v3, v4].drop 4).take (Try.prog.cellsOf 51) = [.slice A4 bs.length c4] := e4
      rw [c51] at this
      exact (List.cons.inj this).1
    subst q0
    subst q1
    subst q2
    subst q3
    subst q4
    exact ⟨⟨a0, a1, a2, a3, bs⟩, k58_mk w ⟨a0, a1, a2, a3, bs⟩ l4 C4, i64_of hw0, w64_of hw1, w64_of hw2, i64_of hw3⟩) h
end
end Go.Proofs.Ytiokegmpooildaa.Hp
