/- Changes that came in as a slice, opened. -/
import Derived.Test.YtmlebgikdegjjaaGreatDoorOc
import Derived.Test.YtmlebgikdegjjaaGreatDoorCh
namespace Go.Proofs.YtmlebgikdegjjaaGreatDoor.Od
open Go.RowKit Go.Proofs.YtmlebgikdegjjaaGreatDoorW.PrintWords Go.Proofs.YtmlebgikdegjjaaGreatDoor.PAll Go.Proofs.YtmlebgikdegjjaaGreatDoor.Hd
open Go.ChangeShapes Go.WideShapes Go.Deep
set_option linter.unusedVariables false
set_option linter.unusedSimpArgs false
section
variable {H : Type} {enc : TypeId × Value → H} {w : World} {b0 : Nat} {base : Nat} {spare : Nat → Bool} {held : Bool}
set_option maxRecDepth 100000 in
theorem elem_change {n : Nat} {cl : List Value} {y : DataW H × List MemPlace} (h : DataW.trod enc Tryz.prog w base spare held n 36 cl = some y) : ∃ x : SC, kC.K w x cl ∧ True := by
  obtain ⟨xs, m, _, _, hl, hxl, hi⟩ := DataW.trod_struct Tryz.underlying36 h
  have e6 : Tryz.prog.cellsOf 34 = 6 := by kernel_rfl
  have e1 : Tryz.prog.cellsOf 9 = 1 := by kernel_rfl
  have e0 : Tryz.prog.cellsOf 4 = 1 := by kernel_rfl
  rw [show Tryz.prog.cellsOf 36 = 8 by kernel_rfl] at hl
  have hx3 : xs.length = 3 := hxl
  have t0 : DataW.trod enc Tryz.prog w base spare held m 4 ((cl.drop 0).take (Tryz.prog.cellsOf 4)) = xs[0]? := hi 0 _ rfl
  have t1 : DataW.trod enc Tryz.prog w base spare held m 34 ((cl.drop 1).take (Tryz.prog.cellsOf 34)) = xs[1]? := hi 1 _ rfl
  have t2 : DataW.trod enc Tryz.prog w base spare held m 9 ((cl.drop 7).take (Tryz.prog.cellsOf 9)) = xs[2]? := hi 2 _ rfl
  rw [e0, List.getElem?_eq_getElem (by omega)] at t0
  rw [e6, List.getElem?_eq_getElem (by omega)] at t1
  rw [e1, List.getElem?_eq_getElem (by omega)] at t2
  obtain ⟨dr, q0, _⟩ := DataW.trod_bool Tryz.underlying4 t0
  obtain ⟨kd, c, s, A, cp, v3, l, t, q1, h1, h2, _⟩ := open_def6 t1
  obtain ⟨ks, q2, _⟩ := open_text Tryz.underlying9 t2
  have hcat : cl = (cl.drop 0).take 1 ++ ((cl.drop 1).take 6 ++ (cl.drop 7).take 1) := by
    rw [show (cl.drop 7).take 1 = cl.drop 7 from List.take_of_length_le (by rw [List.length_drop]; omega)]
    have a1 : (cl.drop 1).take 6 ++ cl.drop 7 = cl.drop 1 := by
      have := List.take_append_drop 6 (cl.drop 1)
      rw [List.drop_drop] at this
      exact this
    rw [a1]
    exact (List.take_append_drop 1 cl).symm
  rw [q0, q1, q2] at hcat
  refine ⟨⟨dr, ⟨kd, c, s, v3, l, t⟩, ks⟩, ?_, trivial⟩
  rw [hcat]
  exact kC_mk w ⟨dr, ⟨kd, c, s, v3, l, t⟩, ks⟩ h1 h2
theorem open_changes {fuel : Nat} {cs : List Value} {y : DataW H × List MemPlace} (h : DataW.trod enc Tryz.prog w base spare held fuel 23 cs = some y) :
    ∃ A c xs, cs = [.slice A xs.length c] ∧ xs.length ≤ c ∧ Kd.C kC w A xs.length xs ∧ (∀ x ∈ xs, True) ∧ xs.length ≤ maxLen :=
  letI : Inhabited SC := ⟨zC⟩
  open_C kC Tryz.underlying23 (by kernel_rfl) (fun _ => True) (fun n cs y _ hy => elem_change hy) h
end
end Go.Proofs.YtmlebgikdegjjaaGreatDoor.Od
