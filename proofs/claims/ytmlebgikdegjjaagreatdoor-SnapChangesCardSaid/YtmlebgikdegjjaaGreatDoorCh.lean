/- A Change in a slice that is read. -/
import Derived.Test.YtmlebgikdegjjaaGreatDoorWWords
import Derived.Test.YtmlebgikdegjjaaGreatDoorPAllx0
namespace Go.Proofs.YtmlebgikdegjjaaGreatDoor.Hd
open Go.RowKit Go.Proofs.YtmlebgikdegjjaaGreatDoorW.PrintWords Go.Proofs.YtmlebgikdegjjaaGreatDoorW.PrintLast Go.Proofs.YtmlebgikdegjjaaGreatDoorW.PrintMore Go.Proofs.YtmlebgikdegjjaaGreatDoor.PAll
attribute [local go_sem] max2_int min2_int max_two min_two max_three min_three max_four min_four
set_option linter.unusedVariables false
set_option linter.unusedSimpArgs false
/-- A change: a key dropped, or a definition put. -/
structure SC where
  dr : Bool
  d : S34
  ks : ByteArray
def zC : SC := ⟨false, z34, ⟨#[]⟩⟩
def kC : Kd SC := Kd.iso (Kd.pair Kd.bool (Kd.pair k34 Kd.string)) (fun x : SC => (x.dr, x.d, x.ks))
theorem kC_open {w : World} {x : SC} {cs : List Value} (h : kC.K w x cs) : ∃ A3 c3, cs = [.bool x.dr, .int .i64 x.d.f0, .string x.d.f1, .string x.d.f2, .slice A3 x.d.f3.length c3, .string x.d.f4, .string x.d.f5, .string x.ks] ∧ x.d.f3.length ≤ c3 ∧ Kd.string.C w A3 x.d.f3.length x.d.f3 := by
  obtain ⟨_, _, rfl, rfl, ⟨_, _, rfl, hK, rfl⟩⟩ := h
  obtain ⟨A3, c3, e, l3, g3⟩ := k34_open hK
  cases e
  exact ⟨A3, c3, rfl, l3, g3⟩
theorem kC_mk (w : World) (x : SC) {A3 : Option Addr} {c3 : Nat} (l3 : x.d.f3.length ≤ c3) (g3 : Kd.string.C w A3 x.d.f3.length x.d.f3) : kC.K w x [.bool x.dr, .int .i64 x.d.f0, .string x.d.f1, .string x.d.f2, .slice A3 x.d.f3.length c3, .string x.d.f4, .string x.d.f5, .string x.ks] :=
  ⟨[.bool x.dr], [.int .i64 x.d.f0, .string x.d.f1, .string x.d.f2, .slice A3 x.d.f3.length c3, .string x.d.f4, .string x.d.f5, .string x.ks], rfl, rfl, ⟨[.int .i64 x.d.f0, .string x.d.f1, .string x.d.f2, .slice A3 x.d.f3.length c3, .string x.d.f4, .string x.d.f5], [.string x.ks], rfl, k34_mk w x.d l3 g3, rfl⟩⟩
theorem at_C {w : World} {A : Option Addr} {n : Nat} {xs : List SC} (h : Kd.C kC w A n xs) (j : Nat) (hj : j < xs.length) (hn : n = xs.length) : ∃ ad A3 c3, A = some ad ∧ w.cell? (ad.add (j * 8)) = some (.bool xs[j].dr) ∧ w.cell? ⟨(ad.add (j * 8)).block, (ad.add (j * 8)).off + 1, none⟩ = some (.int .i64 xs[j].d.f0) ∧ w.cell? ⟨(ad.add (j * 8)).block, (ad.add (j * 8)).off + 2, none⟩ = some (.string xs[j].d.f1) ∧ w.cell? ⟨(ad.add (j * 8)).block, (ad.add (j * 8)).off + 3, none⟩ = some (.string xs[j].d.f2) ∧ w.cell? ⟨(ad.add (j * 8)).block, (ad.add (j * 8)).off + 4, none⟩ = some (.slice A3 xs[j].d.f3.length c3) ∧ w.cell? ⟨(ad.add (j * 8)).block, (ad.add (j * 8)).off + 5, none⟩ = some (.string xs[j].d.f4) ∧ w.cell? ⟨(ad.add (j * 8)).block, (ad.add (j * 8)).off + 6, none⟩ = some (.string xs[j].d.f5) ∧ w.cell? ⟨(ad.add (j * 8)).block, (ad.add (j * 8)).off + 7, none⟩ = some (.string xs[j].ks) ∧ xs[j].d.f3.length ≤ c3 ∧ Kd.string.C w A3 xs[j].d.f3.length xs[j].d.f3 := by
  obtain ⟨ad, c, e, _, hK, hc0⟩ := Kd.C_get h zC (j : Int) (by omega) (by omega)
  rw [Int.toNat_natCast, List.getD_eq_getElem?_getD, List.getElem?_eq_getElem hj] at hK
  have hK : kC.K w xs[j] c := hK
  have hc : ∀ i u, c[i]? = some u → w.cell? (ad.add (j * 8 + i)) = some u := hc0
  obtain ⟨A3, c3, rfl, l3, g3⟩ := kC_open hK
  exact ⟨ad, A3, c3, e, hc 0 _ rfl, by rw [← add_field _ _ 1 (by omega)]; exact hc 1 _ rfl, by rw [← add_field _ _ 2 (by omega)]; exact hc 2 _ rfl, by rw [← add_field _ _ 3 (by omega)]; exact hc 3 _ rfl, by rw [← add_field _ _ 4 (by omega)]; exact hc 4 _ rfl, by rw [← add_field _ _ 5 (by omega)]; exact hc 5 _ rfl, by rw [← add_field _ _ 6 (by omega)]; exact hc 6 _ rfl, by rw [← add_field _ _ 7 (by omega)]; exact hc 7 _ rfl, l3, g3⟩
end Go.Proofs.YtmlebgikdegjjaaGreatDoor.Hd
