/- WordRefs: for every int i, word.Ref and word.Index agree with the reference and are inverse. No condition. -/
import Derived.Test.YtbmcplnkcafikaaPWordRefsx1
import Derived.Test.YtbmcplnkcafikaaAid
namespace Go.Proofs.Ytbmcplnkcafikaa.Pure
open Go.RowKit Go.Proofs.Ytbmcplnkcafikaa.PWordRefs Go.Proofs.YtbmcplnkcafikaaW.PrintWords Go.Proofs.YtbmcplnkcafikaaW.PrintLast Go.Proofs.Ytbmcplnkcafikaa.Aid

theorem WordRefs_awake : monticulelaw17_awake.f = some true := by decide +kernel

theorem WordRefs : monticulelaw17_WordRefs.Pure := by
  intro a wf
  have hb := bounds_i64 wf
  refine ⟨2, ?_⟩
  unfold monticulelaw17_WordRefs.f
  rw [WordRefs_awake]
  simp only [Option.bind_some, if_true]
  by_cases h : 0 ≤ a ∧ a < 4294967296
  · have e1 : word_Ref.f a = some (2 * a, true) := by
      unfold word_Ref.f
      rw [if_neg (by omega), if_neg (by omega), uw, uw]
      congr 2
      omega
    have e2 : monticuleref17_Ref.f a = some (2 * a, true) := by
      unfold monticuleref17_Ref.f
      rw [if_neg (by omega), if_neg (by omega), uw]
      congr 2
      unfold wrap64
      omega
    have e3 : word_IsInt.f (2 * a) = some false := by
      unfold word_IsInt.f
      rw [and1 _ (by omega) (by omega)]
      congr 1
      rw [beq_eq_false_iff_ne]
      omega
    have e4 : word_Value.f (2 * a) = some (0, false) := by
      unfold word_Value.f
      rw [e3]
      simp
    have e5 : word_IsRef.f (2 * a) = some true := by
      unfold word_IsRef.f
      rw [and1 _ (by omega) (by omega), if_pos (by omega)]
      congr 1
      rw [decide_eq_true_eq]
      omega
    have e6 : word_Index.f (2 * a) = some (a, true) := by
      unfold word_Index.f
      rw [e5]
      simp only [Option.bind_some, if_true]
      congr 2
      unfold wrap64
      omega
    rw [e1, e2]
    simp only [Option.bind_some, if_true, monticulelaw17_WordRefs.j0, e3, e4, e5, e6]
    simp
  · have e1 : word_Ref.f a = some (0, false) := by
      unfold word_Ref.f
      by_cases h1 : a < 0
      · rw [if_pos h1]
      · rw [if_neg h1, if_pos (by omega)]
    have e2 : monticuleref17_Ref.f a = some (0, false) := by
      unfold monticuleref17_Ref.f
      by_cases h1 : a < 0
      · rw [if_pos h1]
      · rw [if_neg h1, if_pos (by omega)]
    rw [e1, e2]
    simp [monticulelaw17_WordRefs.j0]

end Go.Proofs.Ytbmcplnkcafikaa.Pure
