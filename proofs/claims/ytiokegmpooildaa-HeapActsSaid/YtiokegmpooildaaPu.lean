/- What the reference answers on small heaps: small, same, right. -/
import Derived.Test.YtiokegmpooildaaPAllx3
import Derived.Test.YtiokegmpooildaaBs
import Derived.Test.YtiokegmpooildaaPAllx2
namespace Go.Proofs.Ytiokegmpooildaa.Hp
open Go.RowKit Go.Proofs.YtiokegmpooildaaW.PrintWords Go.Proofs.YtiokegmpooildaaW.PrintLast Go.Proofs.YtiokegmpooildaaW.PrintMore Go.Proofs.Ytiokegmpooildaa.PAll
set_option linter.unusedVariables false
set_option linter.unusedSimpArgs false
theorem w64_next {i : Int} {n : Nat} (h0 : 0 ≤ i) (h1 : i < (n : Int)) (hn : n ≤ 1000000) : wrap64 (i + 1) = i + 1 := by
  unfold wrap64
  omega
theorem drop53 (l : List S53) (i : Int) (h0 : 0 ≤ i) (h1 : i < (l.length : Int)) : l.drop i.toNat = rd_T53 l i :: l.drop (i + 1).toNat := by
  have e : (i + 1).toNat = i.toNat + 1 := by omega
  rw [e, List.drop_eq_getElem_cons (by omega)]
  unfold rd_T53
  rw [List.getD_eq_getElem?_getD, List.getElem?_eq_getElem (by omega)]
  rfl
theorem dropI (l : List Int) (i : Int) (h0 : 0 ≤ i) (h1 : i < (l.length : Int)) : l.drop i.toNat = rd l i :: l.drop (i + 1).toNat := by
  have e : (i + 1).toNat = i.toNat + 1 := by omega
  rw [e, List.drop_eq_getElem_cons (by omega)]
  unfold rd
  rw [List.getD_eq_getElem?_getD, List.getElem?_eq_getElem (by omega)]
  rfl
theorem rd53_mem {l : List S53} {i : Int} (h0 : 0 ≤ i) (h1 : i < (l.length : Int)) : rd_T53 l i ∈ l := by
  unfold rd_T53
  rw [List.getD_eq_getElem?_getD, List.getElem?_eq_getElem (by omega)]
  exact List.getElem_mem _
/-! ### Small -/
def small1 (x : S53) : Bool := decide (x.f1.length ≤ 60) && decide (x.f2.length ≤ 200)
def smallB (l : List S53) : Bool := decide (l.length ≤ 40) && l.all small1
theorem small_l0 (l : List S53) (hl : l.length ≤ 40) : ∀ (d k : Nat) (i : Int), 0 ≤ i → i + d = l.length → d < k → monticuleref18_Small.l0 k l i = some ((l.drop i.toNat).all small1)
  | 0, k, i, h0, hd, hk => by
    obtain ⟨m, rfl⟩ : ∃ m, k = m + 1 := ⟨k - 1, by omega⟩
    simp only [monticuleref18_Small.l0]
    rw [if_neg (by omega), List.drop_of_length_le (by omega)]
    rfl
  | d + 1, k, i, h0, hd, hk => by
    obtain ⟨m, rfl⟩ : ∃ m, k = m + 1 := ⟨k - 1, by omega⟩
    simp only [monticuleref18_Small.l0]
    rw [if_pos (by omega), if_pos h0, drop53 l i h0 (by omega), List.all_cons]
    by_cases c1 : (((rd_T53 l i).f1).length : Int) > 60
    · rw [if_pos c1]
      have : small1 (rd_T53 l i) = false := by unfold small1; rw [decide_eq_false (by omega), Bool.false_and]
      rw [this, Bool.false_and]
    · rw [if_neg c1]
      by_cases c2 : (((rd_T53 l i).f2).length : Int) > 200
      · rw [if_pos c2]
        have : small1 (rd_T53 l i) = false := by unfold small1; rw [decide_eq_false (p := (rd_T53 l i).f2.length ≤ 200) (by omega), Bool.and_false]
        rw [this, Bool.false_and]
      · rw [if_neg c2, w64_next h0 (n := l.length) (by omega) (by omega), small_l0 l hl d m (i + 1) (by omega) (by omega) (by omega)]
        have : small1 (rd_T53 l i) = true := by unfold small1; rw [decide_eq_true (by omega), decide_eq_true (by omega)]; rfl
        rw [this, Bool.true_and]
theorem small_val (l : List S53) : monticuleref18_Small.f 100 l = some (smallB l) := by
  unfold monticuleref18_Small.f smallB
  by_cases c : (l.length : Int) > 40
  · rw [if_pos c, decide_eq_false (by omega), Bool.false_and]
  · rw [if_neg c, small_l0 l (by omega) l.length 100 0 (by omega) (by omega) (by omega), decide_eq_true (by omega), Bool.true_and]
    rfl
theorem smallB_in {l : List S53} (h : smallB l = true) : l.length ≤ 40 ∧ ∀ x ∈ l, x.f1.length ≤ 60 ∧ x.f2.length ≤ 200 := by
  unfold smallB at h
  rw [Bool.and_eq_true, decide_eq_true_eq, List.all_eq_true] at h
  refine ⟨h.1, fun x hx => ?_⟩
  have := h.2 x hx
  unfold small1 at this
  rw [Bool.and_eq_true, decide_eq_true_eq, decide_eq_true_eq] at this
  exact this
theorem smallB_L {l : List S53} (h : smallB l = true) : SmallL l := by
  have := smallB_in h
  exact ⟨by omega, fun x hx => by have := this.2 x hx; omega⟩
/-! ### Same, of one list -/
theorem one_l0 (a : Int) (b c : List Int) (hb : b.length ≤ 100000) : ∀ (d k : Nat) (i : Int), 0 ≤ i → i + d = b.length → d < k → monticuleref18_One.l0 k i a b c a b c = some true
  | 0, k, i, h0, hd, hk => by
    obtain ⟨m, rfl⟩ : ∃ m, k = m + 1 := ⟨k - 1, by omega⟩
    simp only [monticuleref18_One.l0]
    rw [if_neg (by omega)]
  | d + 1, k, i, h0, hd, hk => by
    obtain ⟨m, rfl⟩ : ∃ m, k = m + 1 := ⟨k - 1, by omega⟩
    simp only [monticuleref18_One.l0]
    rw [if_pos (by omega), if_pos h0, if_pos trivial]
    rw [if_pos (by omega), w64_next h0 (n := b.length) (by omega) (by omega)]
    exact one_l0 a b c hb d m (i + 1) (by omega) (by omega) (by omega)
theorem one_refl (k : Nat) (a : Int) (b c : List Int) (hb : b.length ≤ 100000) (hk : b.length + 1 < k) : monticuleref18_One.f k a b c a b c = some true := by
  unfold monticuleref18_One.f
  obtain ⟨m, rfl⟩ : ∃ m, k = m + 1 := ⟨k - 1, by omega⟩
  rw [if_pos rfl, if_pos rfl]
  simp only [monticuleref18_One.j0]
  rw [if_neg (by simp)]
  exact one_l0 a b c hb b.length m 0 (by omega) (by omega) (by omega)
theorem same_l0 (l : List S53) (q : Nat) (hl : l.length ≤ 5000) (hq : q ≤ 100000) (hx : ∀ x ∈ l, x.f1.length ≤ q) : ∀ (d k : Nat) (i : Int), 0 ≤ i → i + d = l.length → d + q + 3 < k → monticuleref18_Same.l0 k l l i = some true
  | 0, k, i, h0, hd, hk => by
    obtain ⟨m, rfl⟩ : ∃ m, k = m + 1 := ⟨k - 1, by omega⟩
    simp only [monticuleref18_Same.l0]
    rw [if_neg (by omega)]
  | d + 1, k, i, h0, hd, hk => by
    obtain ⟨m, rfl⟩ : ∃ m, k = m + 1 := ⟨k - 1, by omega⟩
    have hm := hx _ (rd53_mem (l := l) h0 (by omega))
    simp only [monticuleref18_Same.l0]
    rw [if_pos (by omega), if_pos h0, if_pos (by omega), one_refl m _ _ _ (by omega) (by omega)]
    simp only [Option.bind_some, if_true]
    rw [w64_next h0 (n := l.length) (by omega) (by omega)]
    exact same_l0 l q hl hq hx d m (i + 1) (by omega) (by omega) (by omega)
theorem same_refl (l : List S53) (q k : Nat) (hl : l.length ≤ 5000) (hq : q ≤ 100000) (hx : ∀ x ∈ l, x.f1.length ≤ q) (hk : l.length + q + 3 < k) : monticuleref18_Same.f k l l = some true := by
  unfold monticuleref18_Same.f
  rw [if_pos rfl]
  exact same_l0 l q hl hq hx l.length k 0 (by omega) (by omega) hk
/-! ### There, Right -/
theorem index17 {a : Int} (h : W64 a) : monticuleref17_Index.f a = some (if a % 2 = 0 ∧ a < 8589934592 then (a / 2, true) else (0, false)) := by
  unfold W64 at h
  unfold monticuleref17_Index.f
  rw [Int.tmod_eq_emod_of_nonneg h.1, Int.tdiv_eq_ediv_of_nonneg h.1]
  by_cases c : a % 2 = 1
  · rw [if_pos c, if_neg (by omega)]
  · rw [if_neg c]
    by_cases c2 : a ≥ 8589934592
    · rw [if_pos c2, if_neg (by omega)]
    · rw [if_neg c2, if_pos (by omega)]
      have e1 : IntKind.u64.wrap (a / 2) = a / 2 := by
        have e2 : IntKind.u64.wrap (a / 2) = (a / 2) % 18446744073709551616 := by kernel_rfl
        rw [e2]
        omega
      rw [e1]
      unfold wrap64
      congr 2
      omega
theorem there18 {a : Int} (h : W64 a) (n : Nat) (hn : n ≤ 5000) : monticuleref18_There.f a n = some (if thereP n a = true then a / 2 else -1) := by
  unfold monticuleref18_There.f
  rw [index17 h]
  have h' := h
  unfold W64 at h'
  by_cases c : a % 2 = 0 ∧ a < 8589934592
  · rw [if_pos c]
    simp only [Option.bind_some, if_true]
    by_cases c2 : a / 2 ≥ (n : Int)
    · rw [if_pos c2, if_neg (by unfold thereP; rw [decide_eq_false (by omega)]; simp)]
    · rw [if_neg c2, if_pos (by unfold thereP; rw [decide_eq_true (by omega)])]
  · rw [if_neg c]
    simp only [Option.bind_some]
    rw [if_neg (by simp), if_neg (by unfold thereP; rw [decide_eq_false (by omega)]; simp)]
end Go.Proofs.Ytiokegmpooildaa.Hp
