/- What the reference answers of used words, of what may stand in a slot, of copies. -/
import Derived.Test.YtiokegmpooildaaPu
import Derived.Test.YtiokegmpooildaaPAllx3
namespace Go.Proofs.Ytiokegmpooildaa.Hp
open Go.RowKit Go.Proofs.YtiokegmpooildaaW.PrintWords Go.Proofs.YtiokegmpooildaaW.PrintLast Go.Proofs.YtiokegmpooildaaW.PrintMore Go.Proofs.Ytiokegmpooildaa.PAll
set_option linter.unusedVariables false
set_option linter.unusedSimpArgs false
theorem size18 {x : S53} (h : x.f1.length ≤ 100000 ∧ x.f2.length ≤ 100000) : monticuleref18_Size.f x.f0 x.f1 x.f2 = some (szO x) := by
  unfold monticuleref18_Size.f szO
  rw [show wrap64 ((x.f2.length : Int) + 7) = (x.f2.length : Int) + 7 from by unfold wrap64; omega, Int.tdiv_eq_ediv_of_nonneg (by omega)]
  congr 1
  unfold wrap64
  omega
theorem used_l0 (l : List S53) (hs : SmallL l) : ∀ (d k : Nat) (i : Int), 0 ≤ i → i + d = l.length → d < k → monticuleref18_Used.l0 k l (usedL (l.take i.toNat)) i = some (usedL l)
  | 0, k, i, h0, hd, hk => by
    obtain ⟨m, rfl⟩ : ∃ m, k = m + 1 := ⟨k - 1, by omega⟩
    simp only [monticuleref18_Used.l0]
    rw [if_neg (by omega), List.take_of_length_le (by omega)]
  | d + 1, k, i, h0, hd, hk => by
    obtain ⟨m, rfl⟩ : ∃ m, k = m + 1 := ⟨k - 1, by omega⟩
    have hl := hs.1
    have hx := hs.at_ i h0 (by omega)
    have h1 := used_take hs i
    have h2 := szO_le hx
    simp only [monticuleref18_Used.l0]
    rw [if_pos (by omega), if_pos h0, size18 hx]
    simp only [Option.bind_some]
    rw [w64_next h0 (n := l.length) (by omega) (by omega), show wrap64 (usedL (l.take i.toNat) + szO (rd_T53 l i)) = usedL (l.take (i + 1).toNat) from by
      rw [take_next l i h0 (by omega), usedL_snoc]
      unfold wrap64
      omega]
    exact used_l0 l hs d m (i + 1) (by omega) (by omega) (by omega)
theorem used_val (l : List S53) (hs : SmallL l) : monticuleref18_Used.f 10000 l = some (usedL l) := by
  have hl := hs.1
  exact used_l0 l hs l.length 10000 0 (by omega) (by omega) (by omega)
theorem may18 {a : Int} (h : W64 a) (n : Nat) (hn : n ≤ 5000) : monticuleref18_May.f a n = some (mayP n a) := by
  unfold monticuleref18_May.f mayP
  rw [there18 h n hn]
  unfold W64 at h
  rw [Int.tmod_eq_emod_of_nonneg h.1]
  by_cases c : a % 2 = 1
  · rw [if_pos c, decide_eq_true c, Bool.true_or]
  · rw [if_neg c, decide_eq_false c, Bool.false_or]
    simp only [Option.bind_some]
    by_cases ht : thereP n a = true
    · rw [if_pos ht, ht, decide_eq_true (by omega)]
    · rw [if_neg ht, decide_eq_false (by omega), Bool.eq_false_iff.2 ht]
theorem clone18 (x : S53) (h : x.f1.length ≤ 100000 ∧ x.f2.length ≤ 100000) : monticuleref18_Clone.f x.f0 x.f1 x.f2 = some (x.f0, x.f1, x.f2) := by
  unfold monticuleref18_Clone.f
  simp only [Option.bind_some]
  rw [if_pos (by simp only [List.length_nil]; omega), if_pos (by simp only [List.length_nil]; omega), List.nil_append, List.nil_append]
end Go.Proofs.Ytiokegmpooildaa.Hp
