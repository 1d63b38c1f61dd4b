/- Plain laws: two changes of unlike keys commute; a map is the same as itself. -/
import Derived.Test.YtmlebgikdegjjaaDoorSf
namespace Go.Proofs.YtmlebgikdegjjaaDoor.Hd
open Go.Maps Go.RowKit Go.Proofs.YtmlebgikdegjjaaDoorW.PrintWords Go.Proofs.YtmlebgikdegjjaaDoorW.PrintLast Go.Proofs.YtmlebgikdegjjaaDoorW.PrintMore Go.Proofs.YtmlebgikdegjjaaDoor.PAll
attribute [local go_sem] max2_int min2_int max_two min_two max_three min_three max_four min_four
set_option linter.unusedVariables false
set_option linter.unusedSimpArgs false
/-- A change: a key dropped, or a definition put. -/
def chM (M : DataW S25) (dr : Bool) (d : S25) (ks ky : ByteArray) : DataW S25 := if dr = true then M.del (KL ks) else M.put (KL ky) (.held d)
theorem KL_inj {a b : ByteArray} (h : KL a = KL b) : a = b := by
  injection h with h
  obtain ⟨⟨x⟩⟩ := a
  obtain ⟨⟨y⟩⟩ := b
  have h : x = y := h
  rw [h]
theorem isLit (s : ByteArray) : WideAt.IsKeyLit (KL s) := trivial
theorem chM_isMap {M : DataW S25} (h : IsMap M) (dr : Bool) (d : S25) (ks ky : ByteArray) : IsMap (chM M dr d ks ky) := by
  unfold chM
  split
  · exact h.del _
  · exact h.put _ _
open Classical in
theorem chM_has {M : DataW S25} (h : IsMap M) (dr : Bool) (d : S25) (ks ky : ByteArray) (k : Lit) : Maps.has (chM M dr d ks ky) k = if k = KL (if dr = true then ks else ky) then !dr else Maps.has M k := by
  unfold chM
  cases dr with
  | true =>
    simp only [if_true]
    by_cases hk : k = KL ks
    · rw [if_pos hk, hk, has_del_same]; rfl
    · rw [if_neg hk, has_del_other hk]
  | false =>
    simp only [Bool.false_eq_true, if_false]
    by_cases hk : k = KL ky
    · rw [if_pos hk, hk, has_put_same h (isLit ky)]; rfl
    · rw [if_neg hk, has_put_other hk]
open Classical in
theorem chM_at {M : DataW S25} (h : IsMap M) (dr : Bool) (d : S25) (ks ky : ByteArray) (k : Lit) (z : DataW S25) : (chM M dr d ks ky).atKey k z = if k = KL (if dr = true then ks else ky) then (if dr = true then z else .held d) else M.atKey k z := by
  unfold chM
  cases dr with
  | true =>
    simp only [if_true]
    by_cases hk : k = KL ks
    · rw [if_pos hk, hk, atKey_del_same]
    · rw [if_neg hk, atKey_del_other hk]
  | false =>
    simp only [Bool.false_eq_true, if_false]
    by_cases hk : k = KL ky
    · rw [if_pos hk, hk, atKey_put_same h (isLit ky)]
    · rw [if_neg hk, atKey_put_other hk]
theorem chM_comm {M : DataW S25} (hM : IsMap M) (da db : Bool) (xa xb : S25) (ka kb ya yb : ByteArray) (hne : (if da = true then ka else ya) ≠ (if db = true then kb else yb))
    (c1 : Maps.Canon (chM (chM M da xa ka ya) db xb kb yb)) (c2 : Maps.Canon (chM (chM M db xb kb yb) da xa ka ya)) : chM (chM M da xa ka ya) db xb kb yb = chM (chM M db xb kb yb) da xa ka ya := by
  have hk : KL (if da = true then ka else ya) ≠ KL (if db = true then kb else yb) := fun h => hne (KL_inj h)
  refine Maps.ext c1 c2 (fun k => ?_) (fun k z _ => ?_)
  · rw [chM_has (chM_isMap hM ..), chM_has hM, chM_has (chM_isMap hM ..), chM_has hM]
    by_cases h1 : k = KL (if da = true then ka else ya)
    · rw [if_pos h1, if_pos h1, if_neg (by rw [h1]; exact hk)]
    · rw [if_neg h1, if_neg h1]
  · rw [chM_at (chM_isMap hM ..), chM_at hM, chM_at (chM_isMap hM ..), chM_at hM]
    by_cases h1 : k = KL (if da = true then ka else ya)
    · rw [if_pos h1, if_pos h1, if_neg (by rw [h1]; exact hk)]
    · rw [if_neg h1, if_neg h1]
theorem elem_ch {M : DataW S25} (hM : IsMap M) (dr : Bool) (d : S25) (ks ky : ByteArray) {x : S25} (h : ElemOf (chM M dr d ks ky) x) : x = d ∨ ElemOf M x := by
  obtain ⟨k, hk⟩ := h
  have h0 := hk .nil
  rw [chM_at hM] at h0
  by_cases h1 : k = KL (if dr = true then ks else ky)
  · rw [if_pos h1] at h0
    cases dr with
    | true => simp only [if_true] at h0; cases h0
    | false =>
      simp only [Bool.false_eq_true, if_false] at h0
      injection h0 with h0
      exact Or.inl h0.symm
  · refine Or.inr ⟨k, fun z => ?_⟩
    have h2 := hk z
    rw [chM_at hM, if_neg h1] at h2
    exact h2
theorem size_ch (M : DataW S25) (dr : Bool) (d : S25) (ks ky : ByteArray) : Maps.size (chM M dr d ks ky) ≤ Maps.size M + 1 := by
  unfold chM
  split
  · cases M <;> try exact Nat.le_succ _
    rename_i ms
    exact Nat.le_trans (List.length_filter_le _ ms) (Nat.le_succ _)
  · exact size_put _ _ _
theorem newGo_facts (key : S25 → ByteArray) : ∀ (l : List S25) (M : DataW S25), IsMap M → IsMap (newGo key l M).1 ∧ Maps.size (newGo key l M).1 ≤ Maps.size M + l.length ∧ ∀ x, ElemOf (newGo key l M).1 x → x ∈ l ∨ ElemOf M x
  | [], M, h => ⟨h, Nat.le_refl _, fun x hx => Or.inr hx⟩
  | d :: l, M, h => by
    unfold newGo
    split
    · exact ⟨h, Nat.le_add_right _ _, fun x hx => Or.inr hx⟩
    · split
      · exact ⟨h, Nat.le_add_right _ _, fun x hx => Or.inr hx⟩
      · obtain ⟨h1, h2, h3⟩ := newGo_facts key l (M.put (KL (key d)) (.held d)) (h.put _ _)
        have h4 := size_put M (KL (key d)) (.held d)
        refine ⟨h1, by rw [List.length_cons]; omega, fun x hx => ?_⟩
        rcases h3 x hx with h5 | h5
        · exact Or.inl (List.mem_cons_of_mem _ h5)
        · rcases elem_ch h false d ⟨#[]⟩ (key d) (x := x) h5 with rfl | h6
          · exact Or.inl (List.mem_cons_self ..)
          · exact Or.inr h6
theorem elem_empty {x : S25} (h : ElemOf (.map [] : DataW S25) x) : False := by
  obtain ⟨k, hk⟩ := h
  have := hk .nil
  cases this
theorem equal_self (sm : S25 → S25 → Bool) {M : DataW S25} (hc : Maps.Canon M) (he : ∀ k, Maps.has M k = true → ∃ d, ∀ z, M.atKey k z = .held d) (h : ∀ x, ElemOf M x → sm x x = true) : equalM sm M M = true := by
  obtain ⟨ms, rfl, hp, hk⟩ := hc
  unfold equalM Lib.equalFuncD
  rw [decide_eq_true rfl, Bool.true_and]
  refine List.all_eq_true.2 (fun p hp1 => ?_)
  have hat := WideAt.atKey_mem (.nil : DataW S25) (hk p hp1) (apart_of_rising hp) hp1
  have hhas : Maps.has (.map ms) p.1 = true := List.any_eq_true.2 ⟨p, hp1, WideAt.sameKey_self (hk p hp1)⟩
  obtain ⟨d, hd⟩ := he p.1 hhas
  have hpd : p.2 = .held d := hat.symm.trans (hd .nil)
  show (Maps.has (.map ms) p.1 && eqS sm p.2 ((DataW.map ms).atKey p.1 .nil)) = true
  rw [hhas, hat, hpd, Bool.true_and]
  exact h d ⟨p.1, hd⟩
theorem MapD.elems {w : World} {b : Nat} {M : DataW S25} (h : MapD w b M) : ∀ k, Maps.has M k = true → ∃ d, ∀ z, M.atKey k z = .held d := fun k hk => by
  obtain ⟨D, _, hr⟩ := h
  rcases hr.look k with ⟨_, h2⟩ | ⟨_, _, _, d, _, h4, _⟩
  · rw [hk] at h2
    cases h2
  · exact ⟨d, h4⟩
end Go.Proofs.YtmlebgikdegjjaaDoor.Hd
