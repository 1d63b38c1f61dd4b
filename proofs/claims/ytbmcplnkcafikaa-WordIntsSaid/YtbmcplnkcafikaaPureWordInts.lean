/- WordInts: for every int n, word.Int and word.Value agree with the reference and are inverse. No condition. -/
import Derived.Test.YtbmcplnkcafikaaPWordIntsx1
import Derived.Test.YtbmcplnkcafikaaAid
namespace Go.Proofs.Ytbmcplnkcafikaa.Pure
open Go.RowKit Go.Proofs.Ytbmcplnkcafikaa.PWordInts Go.Proofs.YtbmcplnkcafikaaW.PrintWords Go.Proofs.YtbmcplnkcafikaaW.PrintLast Go.Proofs.Ytbmcplnkcafikaa.Aid

theorem WordInts_awake : monticulelaw17_awake.f = some true := by decide +kernel

theorem WordInts : monticulelaw17_WordInts.Pure := by
  intro a wf
  have hb := bounds_i64 wf
  refine ⟨2, ?_⟩
  unfold monticulelaw17_WordInts.f
  rw [WordInts_awake]
  simp only [Option.bind_some, if_true]
  by_cases h : -4611686018427387904 ≤ a ∧ a ≤ 4611686018427387903
  · have e1 : word_Int.f a = some ((2 * a) % 18446744073709551616 + 1, true) := by
      unfold word_Int.f
      rw [if_neg (by omega), if_neg (by omega), or1 _ (by rw [uw, uw]; omega) (by rw [uw, uw]; omega) (by rw [uw, uw]; omega), uw, uw]
      congr 2
      omega
    have e2 : monticuleref17_Int.f a = some ((2 * a) % 18446744073709551616 + 1, true) := by
      unfold monticuleref17_Int.f monticuleref17_Is.f
      rw [if_pos (by omega)]
      simp only [Option.bind_some, decide_eq_true_eq]
      rw [if_pos (by omega), uw, uw, uw]
      congr 2
      omega
    have e3 : word_IsInt.f ((2 * a) % 18446744073709551616 + 1) = some true := by
      unfold word_IsInt.f
      rw [and1 _ (by omega) (by omega)]
      congr 1
      rw [beq_iff_eq]
      omega
    have e4 : word_Value.f ((2 * a) % 18446744073709551616 + 1) = some (a, true) := by
      unfold word_Value.f
      rw [e3]
      simp only [Option.bind_some, if_true]
      congr 2
      unfold wrap64
      omega
    have e5 : word_IsRef.f ((2 * a) % 18446744073709551616 + 1) = some false := by
      unfold word_IsRef.f
      rw [and1 _ (by omega) (by omega), if_neg (by omega)]
    have e6 : word_Index.f ((2 * a) % 18446744073709551616 + 1) = some (0, false) := by
      unfold word_Index.f
      rw [e5]
      simp
    rw [e1, e2]
    simp only [Option.bind_some, if_true, monticulelaw17_WordInts.j0, e3, e4, e5, e6]
    simp
  · have e1 : word_Int.f a = some (0, false) := by
      unfold word_Int.f
      by_cases h1 : a > 4611686018427387903
      · rw [if_pos h1]
      · rw [if_neg h1, if_pos (by omega)]
    have e2 : monticuleref17_Int.f a = some (0, false) := by
      unfold monticuleref17_Int.f monticuleref17_Is.f
      by_cases h1 : a ≥ -4611686018427387904
      · rw [if_pos h1]
        simp only [Option.bind_some, decide_eq_true_eq]
        rw [if_neg (by omega)]
      · rw [if_neg h1]
        simp
    rw [e1, e2]
    simp [monticulelaw17_WordInts.j0]

end Go.Proofs.Ytbmcplnkcafikaa.Pure
