/- The plan with one more package that nobody needs and that needs none. -/
import Derived.Test.YtgfdcakeplamnaaDoorPAllx4
import Derived.Test.YtgfdcakeplamnaaDoorPAllx8
import Derived.Test.YtgfdcakeplamnaaDoorPo
namespace Go.Proofs.YtgfdcakeplamnaaDoor.PAll
open Go.RowKit Go.Proofs.YtgfdcakeplamnaaDoorW.PrintWords Go.Proofs.YtgfdcakeplamnaaDoorW.PrintLast Hd
set_option linter.unusedVariables false
theorem find_split {α : Type} (p : α → Bool) (l1 : List α) (y : α) (l2 : List α) (h1 : ∀ z ∈ l1, p z = false) (hy : p y = true) : (l1 ++ y :: l2).findIdx? p = some l1.length := by
  rw [List.findIdx?_append, List.findIdx?_eq_none_iff.2 h1, List.findIdx?_cons, hy]
  simp
theorem split_find {α : Type} (p : α → Bool) {l : List α} {x : Nat} (h : l.findIdx? p = some x) : ∃ l1 y l2, l = l1 ++ y :: l2 ∧ l1.length = x ∧ (∀ z ∈ l1, p z = false) ∧ p y = true := by
  obtain ⟨hx, hp, hb⟩ := List.findIdx?_eq_some_iff_getElem.1 h
  refine ⟨l.take x, l[x], l.drop (x + 1), ?_, by rw [List.length_take]; omega, fun z hz => ?_, hp⟩
  · rw [← List.drop_eq_getElem_cons hx, List.take_append_drop]
  · obtain ⟨j, hj, rfl⟩ := List.getElem_of_mem hz
    rw [List.getElem_take]
    have := hb j (by rw [List.length_take] at hj; omega)
    simpa using this
theorem erase_split {α : Type} (l1 : List α) (y : α) (l2 : List α) : (l1 ++ y :: l2).eraseIdx l1.length = l1 ++ l2 := by
  rw [List.eraseIdx_append_of_length_le (Nat.le_refl _), Nat.sub_self]; rfl
theorem getD_split {α : Type} (l1 : List α) (y : α) (l2 : List α) (d : α) : (l1 ++ y :: l2).getD l1.length d = y := by
  rw [List.getD_eq_getElem?_getD, List.getElem?_append_right (Nat.le_refl _), Nat.sub_self]; rfl
theorem planF_split {ps : List S34} {l1 : List Int} {y : Int} {l2 out : List Int} (h1 : ∀ z ∈ l1, free ps (l1 ++ y :: l2) z = false) (hy : free ps (l1 ++ y :: l2) y = true) :
    planF ps (l1 ++ y :: l2).length (l1 ++ y :: l2) out = planF ps (l1 ++ l2).length (l1 ++ l2) (out ++ [y]) := by
  have e : (l1 ++ y :: l2).length = (l1 ++ l2).length + 1 := by simp; omega
  rw [e]
  have e2 : planF ps ((l1 ++ l2).length + 1) (l1 ++ y :: l2) out = (match (l1 ++ y :: l2).findIdx? (free ps (l1 ++ y :: l2)) with
      | some at_ => planF ps (l1 ++ l2).length ((l1 ++ y :: l2).eraseIdx at_) (out ++ [(l1 ++ y :: l2).getD at_ 0])
      | none => ([], 71, nameP ps ((l1 ++ y :: l2).getD 0 0))) := rfl
  rw [e2, find_split _ l1 y l2 h1 hy]
  simp only []
  rw [erase_split, getD_split]
theorem planF_none {ps : List S34} {l out : List Int} (h0 : l ≠ []) (h1 : ∀ z ∈ l, free ps l z = false) : (planF ps l.length l out).1 = [] ∧ (planF ps l.length l out).2.1 = 71 := by
  obtain ⟨m, hm⟩ : ∃ m, l.length = m + 1 := ⟨l.length - 1, by have := List.length_pos_iff.2 h0; omega⟩
  rw [hm]
  have e2 : planF ps (m + 1) l out = (match l.findIdx? (free ps l) with
      | some at_ => planF ps m (l.eraseIdx at_) (out ++ [l.getD at_ 0])
      | none => ([], 71, nameP ps (l.getD 0 0))) := rfl
  rw [e2, List.findIdx?_eq_none_iff.2 h1]
  exact ⟨rfl, rfl⟩
abbrev noN (n : Int) (l : List Int) : List Int := l.filter fun i => decide (i ≠ n)
theorem noN_split_ne {n y : Int} (hy : y ≠ n) (l1 l2 : List Int) : noN n (l1 ++ y :: l2) = noN n l1 ++ y :: noN n l2 := by
  unfold noN
  rw [List.filter_append, List.filter_cons_of_pos (by simpa using hy)]
theorem noN_split_eq (n : Int) (l1 l2 : List Int) : noN n (l1 ++ n :: l2) = noN n (l1 ++ l2) := by
  unfold noN
  rw [List.filter_append, List.filter_append, List.filter_cons_of_neg (by simp)]
theorem noN_id {n : Int} {l : List Int} (h : n ∉ l) : noN n l = l := by
  unfold noN
  rw [List.filter_eq_self]
  intro a ha
  rw [decide_eq_true_eq]
  rintro rfl
  exact h ha
/-- Sets side by side. -/
theorem more_free (ps : List S34) (x : S34) (hx : x.f2 = []) (hn : ∀ p ∈ ps, x.f0 ∉ p.f2) (left : List Int) (hl : ∀ i ∈ left, 0 ≤ i ∧ i ≤ (ps.length : Int)) (i : Int) (hi : 0 ≤ i ∧ i ≤ (ps.length : Int)) :
    free (ps ++ [x]) left i = if i = (ps.length : Int) then true else free ps (noN (ps.length : Int) left) i := by
  have hlow : ∀ j : Int, 0 ≤ j → j < (ps.length : Int) → rd_T34 (ps ++ [x]) j = rd_T34 ps j := by
    intro j h0 h1
    obtain ⟨m, rfl⟩ := Int.eq_ofNat_of_zero_le h0
    have hm : m < ps.length := by omega
    rw [rd34 ps m hm, rd34 (ps ++ [x]) m (by rw [List.length_append]; omega), List.getElem_append_left hm]
  have htop : rd_T34 (ps ++ [x]) (ps.length : Int) = x := by
    rw [rd34 (ps ++ [x]) ps.length (by simp), List.getElem_append_right (Nat.le_refl _)]
    simp
  by_cases h : i = (ps.length : Int)
  · rw [if_pos h, h]
    unfold free waitsB
    rw [htop, hx]
    have : (left.any fun i => inB [] (nameP (ps ++ [x]) i)) = false := by rw [List.any_eq_false]; intro y _; exact Bool.false_ne_true
    rw [this]
    rfl
  · rw [if_neg h]
    unfold free waitsB
    rw [hlow i hi.1 (by omega)]
    congr 1
    have hni : x.f0 ∉ (rd_T34 ps i).f2 := by
      obtain ⟨m, hm⟩ := Int.eq_ofNat_of_zero_le hi.1
      have hm2 : m < ps.length := by omega
      rw [hm, rd34 ps m hm2]
      exact hn _ (List.getElem_mem hm2)
    rw [Bool.eq_iff_iff, List.any_eq_true, List.any_eq_true]
    constructor
    · rintro ⟨q, hq, hb⟩
      have hq2 := hl q hq
      by_cases hqn : q = (ps.length : Int)
      · exfalso
        rw [hqn] at hb
        unfold nameP at hb
        rw [htop] at hb
        exact hni ((inB_iff _ _).1 hb)
      · refine ⟨q, List.mem_filter.2 ⟨hq, by simpa using hqn⟩, ?_⟩
        unfold nameP at hb ⊢
        rw [hlow q hq2.1 (by omega)] at hb
        exact hb
    · rintro ⟨q, hq, hb⟩
      obtain ⟨hq, hqn⟩ := List.mem_filter.1 hq
      have hqn : q ≠ (ps.length : Int) := by simpa using hqn
      have hq2 := hl q hq
      refine ⟨q, hq, ?_⟩
      unfold nameP at hb ⊢
      rw [hlow q hq2.1 (by omega)]
      exact hb
theorem planF_more (ps : List S34) (x : S34) (hx : x.f2 = []) (hn : ∀ p ∈ ps, x.f0 ∉ p.f2) : ∀ (m : Nat) (left out : List Int), left.length = m → (∀ i ∈ left, 0 ≤ i ∧ i ≤ (ps.length : Int)) →
    (planF (ps ++ [x]) left.length left out).2.1 = (planF ps (noN (ps.length : Int) left).length (noN (ps.length : Int) left) (noN (ps.length : Int) out)).2.1 ∧
    noN (ps.length : Int) (planF (ps ++ [x]) left.length left out).1 = (planF ps (noN (ps.length : Int) left).length (noN (ps.length : Int) left) (noN (ps.length : Int) out)).1
  | 0, left, out, hl, hr => by
    obtain rfl : left = [] := List.eq_nil_of_length_eq_zero hl
    exact ⟨rfl, rfl⟩
  | m + 1, left, out, hl, hr => by
    have hf := more_free ps x hx hn left hr
    cases hfi : left.findIdx? (free (ps ++ [x]) left) with
    | some a =>
      obtain ⟨l1, y, l2, rfl, ha, h1, hy⟩ := split_find _ hfi
      rw [planF_split h1 hy]
      have ih := planF_more ps x hx hn m (l1 ++ l2) (out ++ [y]) (by simp at hl ⊢; omega) (fun i hi => hr i (by simp at hi ⊢; rcases hi with hi | hi <;> simp [hi]))
      by_cases hyn : y = (ps.length : Int)
      · subst hyn
        rw [noN_split_eq]
        have e : noN (ps.length : Int) (out ++ [(ps.length : Int)]) = noN (ps.length : Int) out := by
          unfold noN
          rw [List.filter_append, List.filter_cons_of_neg (by simp), List.filter_nil, List.append_nil]
        rw [e] at ih
        exact ih
      · have hyf : free ps (noN (ps.length : Int) (l1 ++ y :: l2)) y = true := by
          have := hf y (hr y (by simp))
          rw [if_neg hyn] at this
          rw [← this]
          exact hy
        rw [noN_split_ne hyn] at hyf ⊢
        have h1f : ∀ z ∈ noN (ps.length : Int) l1, free ps (noN (ps.length : Int) l1 ++ y :: noN (ps.length : Int) l2) z = false := by
          intro z hz
          obtain ⟨hz, hzn⟩ := List.mem_filter.1 hz
          have hzn : z ≠ (ps.length : Int) := by simpa using hzn
          have := hf z (hr z (by simp [hz]))
          rw [if_neg hzn, noN_split_ne hyn] at this
          rw [← this]
          exact h1 z hz
        rw [planF_split h1f hyf]
        have e : noN (ps.length : Int) (out ++ [y]) = noN (ps.length : Int) out ++ [y] := by
          unfold noN
          rw [List.filter_append, List.filter_cons_of_pos (by simpa using hyn), List.filter_nil]
        have e2 : noN (ps.length : Int) (l1 ++ l2) = noN (ps.length : Int) l1 ++ noN (ps.length : Int) l2 := List.filter_append ..
        rw [e, e2] at ih
        exact ih
    | none =>
      have h1 := List.findIdx?_eq_none_iff.1 hfi
      have hnot : (ps.length : Int) ∉ left := by
        intro hm
        have h2 := hf _ (hr _ hm)
        rw [if_pos rfl, h1 _ hm] at h2
        cases h2
      have hne : left ≠ [] := fun h => by rw [h] at hl; cases hl
      have h3 : ∀ z ∈ left, free ps left z = false := by
        intro z hz
        have h2 := hf z (hr z hz)
        rw [if_neg (fun h : z = (ps.length : Int) => hnot (h ▸ hz)), noN_id hnot] at h2
        rw [← h2]
        exact h1 z hz
      rw [noN_id hnot]
      obtain ⟨a1, a2⟩ := planF_none (out := out) hne h1
      obtain ⟨b1, b2⟩ := planF_none (out := noN (ps.length : Int) out) hne h3
      rw [a1, a2, b1, b2]
      exact ⟨rfl, rfl⟩
theorem sort_more (ps : List S34) (x : S34) (hnd : (ps.map fun p => p.f0).Nodup) : noN (ps.length : Int) (sortL (ps ++ [x])) = sortL ps := by
  have hlow : ∀ j : Int, 0 ≤ j → j < (ps.length : Int) → nameP (ps ++ [x]) j = nameP ps j := by
    intro j h0 h1
    obtain ⟨m, rfl⟩ := Int.eq_ofNat_of_zero_le h0
    have hm : m < ps.length := by omega
    unfold nameP
    rw [rd34 ps m hm, rd34 (ps ++ [x]) m (by rw [List.length_append]; omega), List.getElem_append_left hm]
  have hnums : noN (ps.length : Int) (nums (ps ++ [x]).length) = nums ps.length := by
    rw [show (ps ++ [x]).length = ps.length + 1 by simp]
    unfold nums
    rw [List.range_succ, List.map_append]
    unfold noN
    rw [List.filter_append, List.map_singleton, List.filter_cons_of_neg (by simp), List.filter_nil, List.append_nil, List.filter_eq_self]
    intro a ha
    have := mem_nums.1 (show a ∈ nums ps.length from ha)
    simp; omega
  have hp : (noN (ps.length : Int) (sortL (ps ++ [x]))).Perm (nums ps.length) := by
    rw [← hnums]
    exact (sortL_perm (ps ++ [x])).filter _
  have hin : ∀ a ∈ noN (ps.length : Int) (sortL (ps ++ [x])), 0 ≤ a ∧ a < (ps.length : Int) := fun a ha => mem_nums.1 (hp.subset ha)
  refine List.Perm.eq_of_pairwise (le := fun a b => Op.bytesLess (nameP ps b).toList (nameP ps a).toList = false) (fun a b ha hb h1 h2 => ?_) ?_ (sortL_sorted ps) (hp.trans (sortL_perm ps).symm)
  · have e : nameP ps a = nameP ps b := toList_inj (less_eq _ _ h2 h1)
    obtain ⟨a0, a1⟩ := hin a ha
    obtain ⟨b0, b1⟩ := mem_nums.1 ((sortL_perm ps).subset hb)
    obtain ⟨i, rfl⟩ := Int.eq_ofNat_of_zero_le a0
    obtain ⟨j, rfl⟩ := Int.eq_ofNat_of_zero_le b0
    have hi : i < ps.length := by omega
    have hj : j < ps.length := by omega
    unfold nameP at e
    rw [rd34 ps i hi, rd34 ps j hj] at e
    have h3 : (ps.map fun p => p.f0)[i]'(by simpa using hi) = (ps.map fun p => p.f0)[j]'(by simpa using hj) := by simpa using e
    rw [(List.getElem_inj hnd).1 h3]
  · have h := (sortL_sorted (ps ++ [x])).filter (fun i => decide (i ≠ (ps.length : Int)))
    refine List.Pairwise.imp_of_mem (fun {a b} ha hb hab => ?_) h
    have ha' := hin a ha
    have hb' := hin b hb
    rw [← hlow a ha'.1 ha'.2, ← hlow b hb'.1 hb'.2]
    exact hab
theorem planR_more (ps : List S34) (x : S34) (hx : x.f2 = []) (hn : ∀ p ∈ ps, x.f0 ∉ p.f2) (hnd : (ps.map fun p => p.f0).Nodup) :
    (planR (ps ++ [x]) (sortL (ps ++ [x]))).2.1 = (planR ps (sortL ps)).2.1 ∧ noN (ps.length : Int) (planR (ps ++ [x]) (sortL (ps ++ [x]))).1 = (planR ps (sortL ps)).1 := by
  have h := planF_more ps x hx hn _ (sortL (ps ++ [x])) [] rfl (fun i hi => by
    have := mem_nums.1 ((sortL_perm (ps ++ [x])).subset hi)
    rw [List.length_append, List.length_singleton] at this
    omega)
  rw [sort_more ps x hnd] at h
  exact h
end Go.Proofs.YtgfdcakeplamnaaDoor.PAll
