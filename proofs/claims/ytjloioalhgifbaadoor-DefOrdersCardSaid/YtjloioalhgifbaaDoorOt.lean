/- Three definitions that came in as an array, opened. -/
import Derived.Test.YtjloioalhgifbaaDoorOr
namespace Go.Proofs.YtjloioalhgifbaaDoor.Od
open Go.RowKit Go.Proofs.YtjloioalhgifbaaDoorW.PrintWords
open Go.ChangeShapes Go.WideShapes Go.Deep
set_option linter.unusedVariables false
set_option linter.unusedSimpArgs false
section
variable {H : Type} {enc : TypeId × Value → H} {w : World} {b0 : Nat} {base : Nat} {spare : Nat → Bool} {held : Bool}
set_option maxRecDepth 100000 in
theorem open_def3 {r : Reach} {v : Value} {d : DataW H} {p : List MemPlace} (hv : Value.okWide Tryd.prog w r b0 32 v) (h : DataW.Trod enc Tryd.prog w base spare held 32 v d p) :
    ∃ (kd : Int) (c s : ByteArray) (A : Option Addr) (cp : Nat) (v3 : List ByteArray) (l t : ByteArray) (kd' : Int) (c' s' : ByteArray) (A' : Option Addr) (cp' : Nat) (v3' : List ByteArray) (l' t' : ByteArray) (kd'' : Int) (c'' s'' : ByteArray) (A'' : Option Addr) (cp'' : Nat) (v3'' : List ByteArray) (l'' t'' : ByteArray),
      v = .agg #[.int .i64 kd, .string c, .string s, .slice A v3.length cp, .string l, .string t, .int .i64 kd', .string c', .string s', .slice A' v3'.length cp', .string l', .string t', .int .i64 kd'', .string c'', .string s'', .slice A'' v3''.length cp'', .string l'', .string t''] ∧
      (v3.length ≤ cp ∧ Kd.C Kd.string w A v3.length v3) ∧ (v3'.length ≤ cp' ∧ Kd.C Kd.string w A' v3'.length v3') ∧ (v3''.length ≤ cp'' ∧ Kd.C Kd.string w A'' v3''.length v3'') := by
  obtain ⟨cs, rfl⟩ : ∃ cs, v = .agg cs := by
    simp only [Value.okWide, Tryd.underlying32] at hv
    obtain ⟨cs, h1, _⟩ := hv
    exact ⟨cs, h1⟩
  obtain ⟨fuel, hf⟩ := h
  obtain ⟨xs, m, _, _, hl, hx, hi⟩ := DataW.trod_array Tryd.underlying32 hf
  have e6 : Tryd.prog.cellsOf 31 = 6 := by kernel_rfl
  rw [show Tryd.prog.cellsOf 32 = 18 by kernel_rfl] at hl
  have each : ∀ i, i < 3 → ∃ z, DataW.trod enc Tryd.prog w base spare held m 31 ((cs.toList.drop (i * 6)).take 6) = some z := fun i h => by
    have := hi i h
    rw [e6] at this
    exact ⟨_, this.trans (List.getElem?_eq_getElem (by omega))⟩
  obtain ⟨z0, t0⟩ := each 0 (by decide)
  obtain ⟨z1, t1⟩ := each 1 (by decide)
  obtain ⟨z2, t2⟩ := each 2 (by decide)
  obtain ⟨kd, c, s, A, cp, v3, l, t, e, h1, h2, _⟩ := open_def6 t0
  obtain ⟨kd', c', s', A', cp', v3', l', t', e', h1', h2', _⟩ := open_def6 t1
  obtain ⟨kd'', c'', s'', A'', cp'', v3'', l'', t'', e'', h1'', h2'', _⟩ := open_def6 t2
  refine ⟨kd, c, s, A, cp, v3, l, t, kd', c', s', A', cp', v3', l', t', kd'', c'', s'', A'', cp'', v3'', l'', t'', ?_, ⟨h1, h2⟩, ⟨h1', h2'⟩, ⟨h1'', h2''⟩⟩
  obtain ⟨cl⟩ := cs
  have hcat : cl = (cl.drop (0 * 6)).take 6 ++ ((cl.drop (1 * 6)).take 6 ++ (cl.drop (2 * 6)).take 6) := by
    have hl' : cl.length = 18 := hl
    rw [show (cl.drop (2 * 6)).take 6 = cl.drop 12 from List.take_of_length_le (by rw [List.length_drop]; omega)]
    have a1 : (cl.drop (1 * 6)).take 6 ++ cl.drop 12 = cl.drop 6 := by
      have := List.take_append_drop 6 (cl.drop 6)
      rw [List.drop_drop] at this
      exact this
    rw [a1]
    exact (List.take_append_drop 6 cl).symm
  have hc2 := hcat
  simp only at e e' e''
  rw [e, e', e''] at hc2
  exact congrArg (fun z : List Value => Value.agg ⟨z⟩) hc2
end
end Go.Proofs.YtjloioalhgifbaaDoor.Od
