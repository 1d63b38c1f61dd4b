/- A change that came in by value, and definitions that came in, opened. -/
import Derived.Test.YtmlebgikdegjjaaGreatDoorOr
import Derived.Test.YtmlebgikdegjjaaGreatDoorPAllx0
namespace Go.Proofs.YtmlebgikdegjjaaGreatDoor.Od
open Go.RowKit Go.Proofs.YtmlebgikdegjjaaGreatDoorW.PrintWords Go.Proofs.YtmlebgikdegjjaaGreatDoor.PAll
open Go.ChangeShapes Go.WideShapes Go.Deep
set_option linter.unusedVariables false
set_option linter.unusedSimpArgs false
section
variable {H : Type} {enc : TypeId × Value → H} {w : World} {b0 : Nat} {base : Nat} {spare : Nat → Bool} {held : Bool}
theorem elem_def {n : Nat} {cs : List Value} {y : DataW H × List MemPlace} (h : DataW.trod enc Tryz.prog w base spare held n 34 cs = some y) : ∃ x : S34, k34.K w x cs ∧ True := by
  obtain ⟨kd, c, s, A, cp, v, l, t, rfl, hcp, hC, _⟩ := open_def6 h
  exact ⟨⟨kd, c, s, v, l, t⟩, k34_mk w ⟨kd, c, s, v, l, t⟩ hcp hC, trivial⟩
theorem open_defs {fuel : Nat} {cs : List Value} {y : DataW H × List MemPlace} (h : DataW.trod enc Tryz.prog w base spare held fuel 22 cs = some y) :
    ∃ A c xs, cs = [.slice A xs.length c] ∧ xs.length ≤ c ∧ Kd.C k34 w A xs.length xs ∧ (∀ x ∈ xs, True) ∧ xs.length ≤ maxLen :=
  letI : Inhabited S34 := ⟨z34⟩
  open_C k34 Tryz.underlying22 (by kernel_rfl) (fun _ => True) (fun n cs y _ hy => elem_def hy) h
theorem len1 {α : Type} {cs : List α} (h : cs.length = 1) : ∃ a, cs = [a] := by
  match cs, h with
  | [a], _ => exact ⟨a, rfl⟩
set_option maxRecDepth 100000 in
theorem open_change {r : Reach} {v : Value} {d : DataW H} {p : List MemPlace} (hv : Value.okWide Tryz.prog w r b0 36 v) (h : DataW.Trod enc Tryz.prog w base spare held 36 v d p) :
    ∃ (dr : Bool) (x : S34) (A : Option Addr) (cp : Nat) (ks : ByteArray), v = .agg #[.bool dr, .int .i64 x.f0, .string x.f1, .string x.f2, .slice A x.f3.length cp, .string x.f4, .string x.f5, .string ks] ∧ x.f3.length ≤ cp ∧ Kd.C Kd.string w A x.f3.length x.f3 := by
  obtain ⟨cs, rfl, hsz⟩ := okWide_struct Tryz.underlying36 hv
  obtain ⟨fuel, hf⟩ := h
  obtain ⟨xs, m, _, _, hl, hxl, hi⟩ := DataW.trod_struct Tryz.underlying36 hf
  have e6 : Tryz.prog.cellsOf 34 = 6 := by kernel_rfl
  have e1 : Tryz.prog.cellsOf 9 = 1 := by kernel_rfl
  have e0 : Tryz.prog.cellsOf 4 = 1 := by kernel_rfl
  rw [show Tryz.prog.cellsOf 36 = 8 by kernel_rfl] at hl
  have hx3 : xs.length = 3 := hxl
  have t0 : DataW.trod enc Tryz.prog w base spare held m 4 ((cs.toList.drop 0).take (Tryz.prog.cellsOf 4)) = xs[0]? := hi 0 _ rfl
  have t1 : DataW.trod enc Tryz.prog w base spare held m 34 ((cs.toList.drop 1).take (Tryz.prog.cellsOf 34)) = xs[1]? := hi 1 _ rfl
  have t2 : DataW.trod enc Tryz.prog w base spare held m 9 ((cs.toList.drop 7).take (Tryz.prog.cellsOf 9)) = xs[2]? := hi 2 _ rfl
  rw [e0, List.getElem?_eq_getElem (by omega)] at t0
  rw [e6, List.getElem?_eq_getElem (by omega)] at t1
  rw [e1, List.getElem?_eq_getElem (by omega)] at t2
  obtain ⟨dr, q0, _⟩ := DataW.trod_bool Tryz.underlying4 t0
  obtain ⟨kd, c, s, A, cp, v3, l, t, q1, h1, h2, _⟩ := open_def6 t1
  obtain ⟨ks, q2, _⟩ := open_text Tryz.underlying9 t2
  refine ⟨dr, ⟨kd, c, s, v3, l, t⟩, A, cp, ks, ?_, h1, h2⟩
  obtain ⟨cl⟩ := cs
  have hl' : cl.length = 8 := hl
  have hcat : cl = (cl.drop 0).take 1 ++ ((cl.drop 1).take 6 ++ (cl.drop 7).take 1) := by
    rw [show (cl.drop 7).take 1 = cl.drop 7 from List.take_of_length_le (by rw [List.length_drop]; omega)]
    have a1 : (cl.drop 1).take 6 ++ cl.drop 7 = cl.drop 1 := by
      have := List.take_append_drop 6 (cl.drop 1)
      rw [List.drop_drop] at this
      exact this
    rw [a1]
    exact (List.take_append_drop 1 cl).symm
  have hc2 := hcat
  simp only at q0 q1 q2
  rw [q0, q1, q2] at hc2
  exact congrArg (fun z : List Value => Value.agg ⟨z⟩) hc2
end
end Go.Proofs.YtmlebgikdegjjaaGreatDoor.Od
