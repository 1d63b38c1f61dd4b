/- One more package that nobody needs and that needs none: plan.first's answer. -/
import Derived.Test.YtgfdcakeplamnaaDoorPAllx3
import Derived.Test.YtgfdcakeplamnaaDoorPj
namespace Go.Proofs.YtgfdcakeplamnaaDoor.PAll
open Go.RowKit Go.Proofs.YtgfdcakeplamnaaDoorW.PrintWords Go.Proofs.YtgfdcakeplamnaaDoorW.PrintLast Hd
set_option linter.unusedVariables false
/-- The first package with a fault: 2 where it is not right, 45 where its name stood before. -/
noncomputable def faultV : List ByteArray → List S34 → Option (Int × ByteArray)
  | _, [] => none
  | names, p :: l => open Classical in if ¬ rightP p then some (2, p.f0) else if p.f0 ∈ names then some (45, p.f0) else faultV (names ++ [p.f0]) l
/-- The first need that is not there. -/
def lackV (th names : List ByteArray) (ps : List S34) : Option ByteArray := (ps.flatMap fun p => p.f2).find? fun m => !(inB th m || inB names m)
noncomputable def firstV (th : List ByteArray) (ps : List S34) : Int × ByteArray :=
  match faultV [] ps with
  | some r => r
  | none => match lackV th (ps.map fun p => p.f0) ps with
    | some m => (73, m)
    | none => (0, ⟨#[]⟩)
theorem fault_app (x : S34) : ∀ (names : List ByteArray) (ps : List S34), faultV names (ps ++ [x]) = match faultV names ps with
    | some r => some r
    | none => faultV (names ++ ps.map fun p => p.f0) [x]
  | names, [] => by rw [List.nil_append, List.map_nil, List.append_nil]; rfl
  | names, p :: l => by
    have ih := fault_app x (names ++ [p.f0]) l
    rw [List.cons_append]
    unfold faultV
    by_cases h1 : ¬ rightP p
    · rw [if_pos h1, if_pos h1]
    · rw [if_neg h1, if_neg h1]
      by_cases h2 : p.f0 ∈ names
      · rw [if_pos h2, if_pos h2]
      · rw [if_neg h2, if_neg h2, ih, List.map_cons, List.append_assoc]
        rfl
theorem lack_app (th names : List ByteArray) (ps : List S34) (x : S34) (hx : x.f2 = []) (hn : ∀ p ∈ ps, x.f0 ∉ p.f2) : lackV th (names ++ [x.f0]) (ps ++ [x]) = lackV th names ps := by
  unfold lackV
  rw [List.flatMap_append, List.flatMap_singleton, hx, List.append_nil]
  have e : ∀ m ∈ (ps.flatMap fun p => p.f2), (!(inB th m || inB (names ++ [x.f0]) m)) = (!(inB th m || inB names m)) := by
    intro m hm
    obtain ⟨p, hp, hmp⟩ := List.mem_flatMap.1 hm
    have hne : x.f0 ≠ m := fun h => hn p hp (h ▸ hmp)
    have : inB (names ++ [x.f0]) m = inB names m := by
      unfold inB
      rw [List.any_append, List.any_cons, List.any_nil, decide_eq_false hne]
      simp
    rw [this]
  generalize (ps.flatMap fun p => p.f2) = L at e
  induction L with
  | nil => rfl
  | cons a l ih =>
    rw [List.find?_cons, List.find?_cons, e a List.mem_cons_self, ih (fun m hm => e m (List.mem_cons_of_mem _ hm))]
theorem firstV_more (th : List ByteArray) (ps : List S34) (x : S34) (hx : x.f2 = []) (hr : rightP x) (hf : ∀ p ∈ ps, p.f0 ≠ x.f0) (hn : ∀ p ∈ ps, x.f0 ∉ p.f2) : firstV th (ps ++ [x]) = firstV th ps := by
  unfold firstV
  rw [fault_app]
  cases h : faultV [] ps with
  | some r => rfl
  | none =>
    have h2 : faultV ([] ++ ps.map fun p => p.f0) [x] = none := by
      unfold faultV
      rw [if_neg (not_not_intro hr), if_neg (fun hm => by
        rw [List.nil_append] at hm
        obtain ⟨p, hp, e⟩ := List.mem_map.1 hm
        exact hf p hp e)]
      rfl
    simp only [h2]
    rw [List.map_append, List.map_cons, List.map_nil, lack_app th _ ps x hx hn]
theorem firstV_bad (th : List ByteArray) (ps : List S34) (x : S34) (hr : ¬ rightP x) : firstV th (ps ++ [x]) = (2, x.f0) ∨ (firstV th ps).1 ≠ 0 ∧ (firstV th (ps ++ [x])).1 ≠ 0 := by
  have hne : ∀ (names : List ByteArray) (l : List S34) (r : Int × ByteArray), faultV names l = some r → r.1 ≠ 0 := by
    intro names l
    induction l generalizing names with
    | nil => intro r h; cases h
    | cons p l ih =>
      intro r h
      unfold faultV at h
      split at h
      · injection h with h; subst h; show (2 : Int) ≠ 0; decide
      · split at h
        · injection h with h; subst h; show (45 : Int) ≠ 0; decide
        · exact ih _ r h
  unfold firstV
  rw [fault_app]
  cases h : faultV [] ps with
  | some r => exact Or.inr ⟨hne _ _ _ h, hne _ _ _ h⟩
  | none =>
    have h2 : faultV ([] ++ ps.map fun p => p.f0) [x] = some (2, x.f0) := by
      unfold faultV
      rw [if_pos hr]
    simp only [h2]
    exact Or.inl trivial
end Go.Proofs.YtgfdcakeplamnaaDoor.PAll
