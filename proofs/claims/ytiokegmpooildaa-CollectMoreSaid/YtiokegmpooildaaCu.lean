/- What more roots reach. -/
import Derived.Test.YtiokegmpooildaaCl
namespace Go.Proofs.Ytiokegmpooildaa.Hp
open Go.RowKit Go.Proofs.YtiokegmpooildaaW.PrintWords Go.Proofs.YtiokegmpooildaaW.PrintLast Go.Proofs.YtiokegmpooildaaW.PrintMore Go.Proofs.Ytiokegmpooildaa.PAll
set_option linter.unusedVariables false
set_option linter.unusedSimpArgs false
theorem rch_root {l : List S53} {r : List Int} {a : Int} (ha : a ∈ (0 : Int) :: r) (ht : thereP l.length a = true) : Rch l r (a / 2).toNat := fun S hS => hS.1 a ha ht
theorem rch_step {l : List S53} {r : List Int} {i : Nat} (hi : i < l.length) (h : Rch l r i) {a : Int} (ha : a ∈ wordsO (l.getD i z53)) (ht : thereP l.length a = true) : Rch l r (a / 2).toNat := fun S hS => hS.2 i hi (h S hS) a ha ht
theorem rch_union {l : List S53} {ra rb : List Int} {i : Nat} : Rch l (ra ++ rb) i ↔ Rch l ra i ∨ Rch l rb i := by
  constructor
  · intro h
    refine h (fun i => Rch l ra i ∨ Rch l rb i) ⟨fun a ha ht => ?_, fun i hi hS a ha ht => ?_⟩
    · rcases List.mem_cons.1 ha with rfl | ha
      · exact Or.inl (rch_root (List.mem_cons_self ..) ht)
      · rcases List.mem_append.1 ha with ha | ha
        · exact Or.inl (rch_root (List.mem_cons_of_mem _ ha) ht)
        · exact Or.inr (rch_root (List.mem_cons_of_mem _ ha) ht)
    · rcases hS with hS | hS
      · exact Or.inl (rch_step hi hS ha ht)
      · exact Or.inr (rch_step hi hS ha ht)
  · rintro (h | h) S hS
    · refine h S ⟨fun a ha ht => hS.1 a ?_ ht, hS.2⟩
      rcases List.mem_cons.1 ha with rfl | ha
      · exact List.mem_cons_self ..
      · exact List.mem_cons_of_mem _ (List.mem_append_left _ ha)
    · refine h S ⟨fun a ha ht => hS.1 a ?_ ht, hS.2⟩
      rcases List.mem_cons.1 ha with rfl | ha
      · exact List.mem_cons_self ..
      · exact List.mem_cons_of_mem _ (List.mem_append_right _ ha)
theorem both_mem {l : List S53} {ra rb : List Int} {b1 b2 b3 : List Bool} (h1 : Marked l ra b1) (h2 : Marked l rb b2) (h3 : Marked l (ra ++ rb) b3) (i : Int) (h0 : 0 ≤ i) : i ∈ numsF b1 0 ++ numsF b2 0 ↔ rdOf false b3 i = true := by
  have hlen : ∀ b : List Bool, b.getD i.toNat false = true → i.toNat < b.length := fun b hb => rdOf_in (x := i) hb
  rw [List.mem_append, numsF_mem, numsF_mem, Int.sub_zero, rdOf_eq]
  constructor
  · rintro (⟨_, h⟩ | ⟨_, h⟩)
    · have hl := hlen _ h
      rw [h1.1] at hl
      exact (h3.2 _ hl).2 (rch_union.2 (Or.inl ((h1.2 _ hl).1 h)))
    · have hl := hlen _ h
      rw [h2.1] at hl
      exact (h3.2 _ hl).2 (rch_union.2 (Or.inr ((h2.2 _ hl).1 h)))
  · intro h
    have hl := hlen _ h
    rw [h3.1] at hl
    rcases rch_union.1 ((h3.2 _ hl).1 h) with h | h
    · exact Or.inl ⟨h0, (h1.2 _ hl).2 h⟩
    · exact Or.inr ⟨h0, (h2.2 _ hl).2 h⟩
/-- Fifty truth values as cells. -/
def arrB (f : Nat → Bool) : Array Value := ((List.range 50).map (fun k => Value.bool (f k))).toArray
theorem arrB_at (f : Nat → Bool) (k : Nat) (h : k < 50) : (arrB f)[k]? = some (.bool (f k)) := by
  unfold arrB
  simp [h]
theorem arrB_set (f : Nat → Bool) (k : Nat) (h : k < 50) : (arrB f).setIfInBounds k (.bool true) = arrB (fun j => if j = k then true else f j) := by
  unfold arrB
  rw [List.setIfInBounds_toArray]
  congr 1
  refine List.ext_getElem? (fun j => ?_)
  rw [List.getElem?_set]
  by_cases e : k = j
  · subst e
    simp [h]
  · rw [if_neg e]
    simp only [List.getElem?_map]
    by_cases hj : j < 50
    · simp [hj, Ne.symm e]
    · simp [hj]
end Go.Proofs.Ytiokegmpooildaa.Hp
