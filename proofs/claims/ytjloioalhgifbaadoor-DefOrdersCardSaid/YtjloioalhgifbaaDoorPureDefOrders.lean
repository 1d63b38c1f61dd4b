/- DefOrders' plain statement: the comparisons of definitions are an order's. -/
import Derived.Test.YtjloioalhgifbaaDoorPAllx5
import Derived.Test.YtjloioalhgifbaaDoorPAllx8
import Derived.Test.YtjloioalhgifbaaDoorPe
namespace Go.Proofs.YtjloioalhgifbaaDoor.Pure
open Go.RowKit Go.Proofs.YtjloioalhgifbaaDoor.PAll Go.Proofs.YtjloioalhgifbaaDoorW.PrintWords Go.Proofs.YtjloioalhgifbaaDoorW.PrintLast
theorem less_trans : ∀ a b c : List UInt8, Op.bytesLess a b = true → Op.bytesLess b c = true → Op.bytesLess a c = true
  | _, [], _, h, _ => by simp [Op.bytesLess] at h
  | _, _ :: _, [], _, h => by simp [Op.bytesLess] at h
  | [], _ :: _, _ :: _, _, _ => rfl
  | a :: x, b :: y, c :: z, h, h' => by
    unfold Op.bytesLess at h h' ⊢
    simp only [Bool.or_eq_true, Bool.and_eq_true, decide_eq_true_eq, beq_iff_eq] at h h' ⊢
    rcases h with h | ⟨rfl, h⟩
    · rcases h' with h' | ⟨rfl, h'⟩
      · exact Or.inl (by rw [UInt8.lt_iff_toNat_lt] at *; omega)
      · exact Or.inl h
    · rcases h' with h' | ⟨rfl, h'⟩
      · exact Or.inl h'
      · exact Or.inr ⟨rfl, less_trans x y z h h'⟩
theorem less_eq (a b : List UInt8) (h : Op.bytesLess a b = false) (h' : Op.bytesLess b a = false) : a = b := by
  have := Nm.less_turn a b
  rw [h, h', Bool.false_or] at this
  simpa using this
theorem cmp_self (a : ByteArray) : cmpB a a = 0 := by
  unfold cmpB
  rw [if_neg (by rw [Nm.less_irrefl]; decide), if_neg (by rw [Nm.less_irrefl]; decide)]
theorem cmp_turn (a b : ByteArray) : cmpB b a = -cmpB a b := by
  unfold cmpB
  by_cases h : Op.bytesLess a.toList b.toList = true
  · rw [if_neg (by rw [less_asym _ _ h]; decide), if_pos h, if_pos h]; rfl
  · by_cases h' : Op.bytesLess b.toList a.toList = true
    · rw [if_pos h', if_neg h, if_pos h']
    · rw [if_neg h', if_neg h, if_neg h, if_neg h']; rfl
theorem cmp_three (a b : ByteArray) : cmpB a b = -1 ∨ cmpB a b = 0 ∨ cmpB a b = 1 := by
  unfold cmpB
  split
  · exact Or.inl rfl
  · split
    · exact Or.inr (Or.inr rfl)
    · exact Or.inr (Or.inl rfl)
theorem cmp_zero {a b : ByteArray} (h : cmpB a b = 0) : a.toList = b.toList := by
  unfold cmpB at h
  split at h
  · cases h
  · split at h
    · cases h
    · rename_i h1 h2
      exact less_eq _ _ (Bool.eq_false_iff.mpr h1) (Bool.eq_false_iff.mpr h2)
theorem cmp_pos {a b : ByteArray} : 0 < cmpB a b ↔ Op.bytesLess b.toList a.toList = true := by
  unfold cmpB
  constructor
  · intro h
    split at h
    · exact absurd h (by decide)
    · split at h
      · assumption
      · exact absurd h (by decide)
  · intro h
    rw [if_neg (by rw [less_asym _ _ h]; decide), if_pos h]; decide
theorem not_less {a b : List UInt8} (h : Op.bytesLess b a = false) : Op.bytesLess a b = true ∨ a = b := by
  by_cases h' : Op.bytesLess a b = true
  · exact Or.inl h'
  · exact Or.inr (less_eq _ _ (Bool.eq_false_iff.mpr h') h)
theorem cmp_on (a b c : ByteArray) : 0 < cmpB a b ∨ 0 < cmpB b c ∨ cmpB a c ≤ 0 := by
  by_cases h1 : 0 < cmpB a b
  · exact Or.inl h1
  · by_cases h2 : 0 < cmpB b c
    · exact Or.inr (Or.inl h2)
    · refine Or.inr (Or.inr ?_)
      rw [cmp_pos] at h1 h2
      refine Int.not_lt.1 (fun h3 => ?_)
      rw [cmp_pos] at h3
      rcases not_less (Bool.eq_false_iff.mpr h1) with q1 | q1 <;> rcases not_less (Bool.eq_false_iff.mpr h2) with q2 | q2
      · have := less_asym _ _ (less_trans _ _ _ q1 q2); rw [h3] at this; cases this
      · rw [q2] at q1; have := less_asym _ _ q1; rw [h3] at this; cases this
      · rw [← q1] at q2; have := less_asym _ _ q2; rw [h3] at this; cases this
      · rw [q1, q2, Nm.less_irrefl] at h3; cases h3
theorem cmp_same (a b c : ByteArray) : cmpB a b ≠ 0 ∨ cmpB b c ≠ 0 ∨ cmpB a c = 0 := by
  by_cases h1 : cmpB a b = 0
  · by_cases h2 : cmpB b c = 0
    · refine Or.inr (Or.inr ?_)
      have := cmp_zero h1
      have := cmp_zero h2
      unfold cmpB
      rw [‹a.toList = b.toList›, ‹b.toList = c.toList›, if_neg (by rw [Nm.less_irrefl]; decide), if_neg (by rw [Nm.less_irrefl]; decide)]
    · exact Or.inr (Or.inl h2)
  · exact Or.inl h1
/-- Two small definitions, compared. -/
theorem comp_small (kd : Int) (c s : ByteArray) (v : List ByteArray) (l t : ByteArray) (kd' : Int) (c' s' : ByteArray) (v' : List ByteArray) (l' t' : ByteArray) (h : smallD kd c s v l t = true) (h' : smallD kd' c' s' v' l' t' = true) :
    Ev (fun k => def_Compare.f k kd c s v l t kd' c' s' v' l' t') (cmpB (keyD kd c s v l t) (keyD kd' c' s' v' l' t')) := by
  obtain ⟨a1, a2, a3, a4, a5, a6⟩ := smallD_of h
  obtain ⟨b1, b2, b3, b4, b5, b6⟩ := smallD_of h'
  exact Compare_val kd c s v l t kd' c' s' v' l' t' (by omega) (by omega) (by omega) (by omega) (by omega) (by omega)
theorem ev_if {α : Type} {p : Prop} {f : Nat → Option α} {x : α} (h : p → Ev f x) : ∃ K, p → ∀ k, K ≤ k → f k = some x := by
  by_cases hp : p
  · obtain ⟨K, hK⟩ := ev_out (h hp)
    exact ⟨K, fun _ => hK⟩
  · exact ⟨0, fun q => absurd q hp⟩
theorem DefOrders (kd : Int) (c s : ByteArray) (v : List ByteArray) (l t : ByteArray) (kd' : Int) (c' s' : ByteArray) (v' : List ByteArray) (l' t' : ByteArray) (kd'' : Int) (c'' s'' : ByteArray) (v'' : List ByteArray) (l'' t'' : ByteArray) :
    ∃ k, monticulelaw07_awake.f k = some true ∧ monticuleref07_Small.f k kd c s v l t = some (smallD kd c s v l t) ∧ monticuleref07_Small.f k kd' c' s' v' l' t' = some (smallD kd' c' s' v' l' t') ∧ monticuleref07_Small.f k kd'' c'' s'' v'' l'' t'' = some (smallD kd'' c'' s'' v'' l'' t'') ∧
      (smallD kd c s v l t = true → smallD kd' c' s' v' l' t' = true → smallD kd'' c'' s'' v'' l'' t'' = true → def_Compare.f k kd c s v l t kd' c' s' v' l' t' = some (cmpB (keyD kd c s v l t) (keyD kd' c' s' v' l' t'))) ∧
      (smallD kd c s v l t = true → smallD kd' c' s' v' l' t' = true → smallD kd'' c'' s'' v'' l'' t'' = true → def_Compare.f k kd' c' s' v' l' t' kd'' c'' s'' v'' l'' t'' = some (cmpB (keyD kd' c' s' v' l' t') (keyD kd'' c'' s'' v'' l'' t''))) ∧
      (smallD kd c s v l t = true → smallD kd' c' s' v' l' t' = true → smallD kd'' c'' s'' v'' l'' t'' = true → def_Compare.f k kd c s v l t kd'' c'' s'' v'' l'' t'' = some (cmpB (keyD kd c s v l t) (keyD kd'' c'' s'' v'' l'' t''))) ∧
      (smallD kd c s v l t = true → smallD kd' c' s' v' l' t' = true → smallD kd'' c'' s'' v'' l'' t'' = true → def_Compare.f k kd c s v l t kd c s v l t = some 0) ∧
      (smallD kd c s v l t = true → smallD kd' c' s' v' l' t' = true → smallD kd'' c'' s'' v'' l'' t'' = true → def_Compare.f k kd' c' s' v' l' t' kd c s v l t = some (-cmpB (keyD kd c s v l t) (keyD kd' c' s' v' l' t'))) := by
  obtain ⟨K0, h0⟩ := ev_out awake07_val
  obtain ⟨K1, h1⟩ := ev_out (Small_val kd c s v l t)
  obtain ⟨K2, h2⟩ := ev_out (Small_val kd' c' s' v' l' t')
  obtain ⟨K3, h3⟩ := ev_out (Small_val kd'' c'' s'' v'' l'' t'')
  obtain ⟨K4, h4⟩ := ev_if (p := smallD kd c s v l t = true ∧ smallD kd' c' s' v' l' t' = true) (fun h => comp_small kd c s v l t kd' c' s' v' l' t' h.1 h.2)
  obtain ⟨K5, h5⟩ := ev_if (p := smallD kd' c' s' v' l' t' = true ∧ smallD kd'' c'' s'' v'' l'' t'' = true) (fun h => comp_small kd' c' s' v' l' t' kd'' c'' s'' v'' l'' t'' h.1 h.2)
  obtain ⟨K6, h6⟩ := ev_if (p := smallD kd c s v l t = true ∧ smallD kd'' c'' s'' v'' l'' t'' = true) (fun h => comp_small kd c s v l t kd'' c'' s'' v'' l'' t'' h.1 h.2)
  obtain ⟨K7, h7⟩ := ev_if (p := smallD kd c s v l t = true) (fun h => comp_small kd c s v l t kd c s v l t h h)
  obtain ⟨K8, h8⟩ := ev_if (p := smallD kd' c' s' v' l' t' = true ∧ smallD kd c s v l t = true) (fun h => comp_small kd' c' s' v' l' t' kd c s v l t h.1 h.2)
  have le : ∀ {a b : Nat}, a ≤ b → a ≤ b := fun h => h
  refine ⟨K0 + K1 + K2 + K3 + K4 + K5 + K6 + K7 + K8, h0 _ (by omega), h1 _ (by omega), h2 _ (by omega), h3 _ (by omega), fun a b _ => h4 ⟨a, b⟩ _ (by omega), fun _ b d => h5 ⟨b, d⟩ _ (by omega), fun a _ d => h6 ⟨a, d⟩ _ (by omega), fun a _ _ => ?_, fun a b _ => ?_⟩
  · rw [h7 a _ (by omega), cmp_self]
  · rw [h8 ⟨b, a⟩ _ (by omega), cmp_turn]
end Go.Proofs.YtjloioalhgifbaaDoor.Pure
