/- Packages that came in, opened. -/
import Derived.Test.YtgfdcakeplamnaaDoorOr
import Derived.Test.YtgfdcakeplamnaaDoorPAllx0
namespace Go.Proofs.YtgfdcakeplamnaaDoor.Od
open Go.RowKit Go.Proofs.YtgfdcakeplamnaaDoorW.PrintWords Go.Proofs.YtgfdcakeplamnaaDoor.PAll
open Go.ChangeShapes Go.WideShapes Go.Deep
set_option linter.unusedVariables false
set_option linter.unusedSimpArgs false
theorem len4 {α : Type} {cs : List α} (h : cs.length = 4) : ∃ a b c d, cs = [a, b, c, d] := by
  match cs, h with
  | [a, b, c, d], _ => exact ⟨a, b, c, d, rfl⟩
section
variable {H : Type} {enc : TypeId × Value → H} {w : World} {base : Nat} {spare : Nat → Bool} {held : Bool}
theorem elem_def {n : Nat} {cs : List Value} {y : DataW H × List MemPlace} (h : DataW.trod enc Tryd.prog w base spare held n 68 cs = some y) : ∃ x : S68, k68.K w x cs ∧ True := by
  obtain ⟨kd, c, s, A, cp, v, l, t, rfl, hcp, hC, _⟩ := open_def6 h
  exact ⟨⟨kd, c, s, v, l, t⟩, k68_mk w ⟨kd, c, s, v, l, t⟩ hcp hC, trivial⟩
theorem open_defs {fuel : Nat} {cs : List Value} {y : DataW H × List MemPlace} (h : DataW.trod enc Tryd.prog w base spare held fuel 32 cs = some y) :
    ∃ A c xs, cs = [.slice A xs.length c] ∧ xs.length ≤ c ∧ Kd.C k68 w A xs.length xs ∧ (∀ x ∈ xs, True) ∧ xs.length ≤ maxLen :=
  letI : Inhabited S68 := ⟨z68⟩
  open_C k68 Tryd.underlying32 (by kernel_rfl) (fun _ => True) (fun n cs y _ hy => elem_def hy) h
theorem elem_pkg {n : Nat} {cs : List Value} {y : DataW H × List MemPlace} (h : DataW.trod enc Tryd.prog w base spare held n 34 cs = some y) : ∃ x : S34, k34.K w x cs ∧ True := by
  obtain ⟨hl, hF⟩ := open_struct Tryd.underlying34 (by kernel_rfl) h
  obtain ⟨x0, x1, x2, x3, rfl⟩ := len4 (hl.trans (show Tryd.prog.cellsOf 34 = 4 by kernel_rfl))
  obtain ⟨_, _, t0⟩ := hF 0 _ rfl
  obtain ⟨_, _, t1⟩ := hF 1 _ rfl
  obtain ⟨_, _, t2⟩ := hF 2 _ rfl
  obtain ⟨_, _, t3⟩ := hF 3 _ rfl
  obtain ⟨nm, e0, _⟩ := open_text Tryd.underlying9 t0
  obtain ⟨vr, e1, _, _⟩ := DataW.trod_int Tryd.underlying3 t1
  obtain ⟨A2, c2, f2, e2, h2, C2, _, _⟩ := open_texts Tryd.underlying22 Tryd.underlying9 (by kernel_rfl) t2
  obtain ⟨A3, c3, f3, e3, h3, C3, _, _⟩ := open_defs t3
  have q0 : x0 = .string nm := (List.cons.inj e0).1
  have q1 : x1 = .int .i64 vr := (List.cons.inj e1).1
  have q2 : x2 = .slice A2 f2.length c2 := (List.cons.inj e2).1
  have q3 : x3 = .slice A3 f3.length c3 := (List.cons.inj e3).1
  rw [q0, q1, q2, q3]
  exact ⟨⟨nm, vr, f2, f3⟩, k34_mk w ⟨nm, vr, f2, f3⟩ h2 C2 h3 C3, trivial⟩
theorem open_pkgs {fuel : Nat} {cs : List Value} {y : DataW H × List MemPlace} (h : DataW.trod enc Tryd.prog w base spare held fuel 23 cs = some y) :
    ∃ A c xs, cs = [.slice A xs.length c] ∧ xs.length ≤ c ∧ Kd.C k34 w A xs.length xs ∧ (∀ x ∈ xs, True) ∧ xs.length ≤ maxLen :=
  letI : Inhabited S34 := ⟨z34⟩
  open_C k34 Tryd.underlying23 (by kernel_rfl) (fun _ => True) (fun n cs y _ hy => elem_pkg hy) h
theorem elem_loaded {n : Nat} {cs : List Value} {y : DataW H × List MemPlace} (h : DataW.trod enc Tryd.prog w base spare held n 42 cs = some y) : ∃ x : S42, k42.K w x cs ∧ True := by
  obtain ⟨hl, hF⟩ := open_struct Tryd.underlying42 (by kernel_rfl) h
  obtain ⟨x0, x1, x2, x3, rfl⟩ := len4 (hl.trans (show Tryd.prog.cellsOf 42 = 4 by kernel_rfl))
  obtain ⟨_, _, t0⟩ := hF 0 _ rfl
  obtain ⟨_, _, t1⟩ := hF 1 _ rfl
  obtain ⟨_, _, t2⟩ := hF 2 _ rfl
  obtain ⟨_, _, t3⟩ := hF 3 _ rfl
  obtain ⟨nm, e0, _⟩ := open_text Tryd.underlying9 t0
  obtain ⟨vr, e1, _, _⟩ := DataW.trod_int Tryd.underlying3 t1
  obtain ⟨A2, c2, f2, e2, h2, C2, _, _⟩ := open_texts Tryd.underlying22 Tryd.underlying9 (by kernel_rfl) t2
  obtain ⟨A3, c3, f3, e3, h3, C3, _, _⟩ := open_texts Tryd.underlying22 Tryd.underlying9 (by kernel_rfl) t3
  have q0 : x0 = .string nm := (List.cons.inj e0).1
  have q1 : x1 = .int .i64 vr := (List.cons.inj e1).1
  have q2 : x2 = .slice A2 f2.length c2 := (List.cons.inj e2).1
  have q3 : x3 = .slice A3 f3.length c3 := (List.cons.inj e3).1
  rw [q0, q1, q2, q3]
  exact ⟨⟨nm, vr, f2, f3⟩, k42_mk w ⟨nm, vr, f2, f3⟩ h2 C2 h3 C3, trivial⟩
theorem open_loads {fuel : Nat} {cs : List Value} {y : DataW H × List MemPlace} (h : DataW.trod enc Tryd.prog w base spare held fuel 40 cs = some y) :
    ∃ A c xs, cs = [.slice A xs.length c] ∧ xs.length ≤ c ∧ Kd.C k42 w A xs.length xs ∧ (∀ x ∈ xs, True) ∧ xs.length ≤ maxLen :=
  letI : Inhabited S42 := ⟨z42⟩
  open_C k42 Tryd.underlying40 (by kernel_rfl) (fun _ => True) (fun n cs y _ hy => elem_loaded hy) h
end
end Go.Proofs.YtgfdcakeplamnaaDoor.Od
