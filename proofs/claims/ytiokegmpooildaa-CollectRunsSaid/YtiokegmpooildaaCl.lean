/- What the laws of chapter 19 need of lists. -/
import Derived.Test.YtiokegmpooildaaCa
namespace Go.Proofs.Ytiokegmpooildaa.Hp
open Go.RowKit Go.Proofs.YtiokegmpooildaaW.PrintWords Go.Proofs.YtiokegmpooildaaW.PrintLast Go.Proofs.YtiokegmpooildaaW.PrintMore Go.Proofs.Ytiokegmpooildaa.PAll
set_option linter.unusedVariables false
set_option linter.unusedSimpArgs false
theorem words_l0 (t : List Int) (ht : t.length ≤ 100000) : ∀ (d k : Nat) (i : Int), 0 ≤ i → i + d = t.length → d < k → monticuleref19_Words.l0 k t t i = some true
  | 0, k, i, h0, hd, hk => by
    obtain ⟨m, rfl⟩ : ∃ m, k = m + 1 := ⟨k - 1, by omega⟩
    simp only [monticuleref19_Words.l0]
    rw [if_neg (by omega)]
  | d + 1, k, i, h0, hd, hk => by
    obtain ⟨m, rfl⟩ : ∃ m, k = m + 1 := ⟨k - 1, by omega⟩
    simp only [monticuleref19_Words.l0]
    rw [if_pos (by omega), if_pos h0, if_pos (by omega), if_pos trivial, w64_next h0 (n := t.length) (by omega) (by omega)]
    exact words_l0 t ht d m (i + 1) (by omega) (by omega) (by omega)
theorem words_refl (t : List Int) (ht : t.length ≤ 100000) (K : Nat) (hK : t.length < K) : monticuleref19_Words.f K t t = some true := by
  unfold monticuleref19_Words.f
  rw [if_pos rfl]
  exact words_l0 t ht t.length K 0 (by omega) (by omega) hK
theorem nums_at (bs : List Bool) (i : Int) (h0 : 0 ≤ i) (h : rdOf false bs i = true) : rd (numsF bs 0) (cntB (bs.take i.toNat) : Int) = i := by
  have hi := rdOf_in h
  have e : bs = bs.take i.toNat ++ (true :: bs.drop (i.toNat + 1)) := by
    have h1 : bs[i.toNat] = true := by
      rw [rdOf_eq, List.getD_eq_getElem?_getD, List.getElem?_eq_getElem hi] at h
      exact h
    conv => lhs; rw [← List.take_append_drop i.toNat bs]
    rw [List.drop_eq_getElem_cons hi, h1]
  have e2 : numsF bs 0 = numsF (bs.take i.toNat) 0 ++ (i :: numsF (bs.drop (i.toNat + 1)) (i + 1)) := by
    have e3 : (0 : Int) + ((bs.take i.toNat).length : Int) = i := by rw [List.length_take]; omega
    conv => lhs; rw [e]
    rw [numsF_append, numsF_cons, if_pos rfl, e3]
  unfold rd
  rw [e2, List.getD_eq_getElem?_getD, Int.toNat_natCast]
  show ((numsF (bs.take i.toNat) 0 ++ (i :: numsF (bs.drop (i.toNat + 1)) (i + 1)))[(numsF (bs.take i.toNat) 0).length]?).getD 0 = i
  rw [List.getElem?_append_right (Nat.le_refl _), Nat.sub_self]
  rfl
theorem keptL_slots {m : Int → Option Int} {l : List S53} {ns : List Int} {q : Nat} (hq : ∀ x ∈ l, x.f1.length ≤ q) (hr : ∀ a ∈ ns, 0 ≤ a ∧ a < (l.length : Int)) : ∀ x ∈ keptL m l ns, x.f1.length ≤ q := by
  intro x hx
  obtain ⟨i, hi, rfl⟩ := List.mem_map.1 hx
  unfold turnO
  rw [List.length_map]
  exact hq _ (rd53_mem (hr i hi).1 (hr i hi).2)
theorem ofErr_ne {l : List S53} {o wd : Int} (h : ofErr l o wd = 0) : l ≠ [] := by
  rintro rfl
  unfold ofErr at h
  by_cases h1 : (([] : List S53).length : Int) > o ∨ usedL ([] : List S53) > wd
  · rw [if_pos h1] at h; cases h
  · rw [if_neg h1] at h; simp at h
end Go.Proofs.Ytiokegmpooildaa.Hp
