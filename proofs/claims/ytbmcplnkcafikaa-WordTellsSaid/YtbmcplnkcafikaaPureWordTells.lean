/- WordTells: every word is classified by word.Value, word.Index, word.IsInt and word.IsRef as by the reference. No condition. -/
import Derived.Test.YtbmcplnkcafikaaPWordTellsx1
import Derived.Test.YtbmcplnkcafikaaAid
namespace Go.Proofs.Ytbmcplnkcafikaa.Pure
open Go.RowKit Go.Proofs.Ytbmcplnkcafikaa.PWordTells Go.Proofs.YtbmcplnkcafikaaW.PrintWords Go.Proofs.YtbmcplnkcafikaaW.PrintLast Go.Proofs.Ytbmcplnkcafikaa.Aid

theorem WordTells_awake : monticulelaw17_awake.f = some true := by decide +kernel

theorem WordTells : monticulelaw17_WordTells.Pure := by
  intro a wf
  have hb := bounds_u64 wf
  have hm := Int.tmod_eq_emod_of_nonneg (b := 2) hb.1
  have hd := Int.tdiv_eq_ediv_of_nonneg (b := 2) hb.1
  unfold monticulelaw17_WordTells.f
  rw [WordTells_awake]
  simp only [Option.bind_some, if_true]
  by_cases h : a % 2 = 1
  · have e3 : word_IsInt.f a = some true := by
      unfold word_IsInt.f
      rw [and1 _ (by omega) (by omega), h]
      rfl
    have e5 : word_IsRef.f a = some false := by
      unfold word_IsRef.f
      rw [and1 _ (by omega) (by omega), if_neg (by omega)]
    have e4 : word_Value.f a = some (wrap64 a / 2, true) := by
      unfold word_Value.f
      rw [e3]
      simp
    have e6 : word_Index.f a = some (0, false) := by
      unfold word_Index.f
      rw [e5]
      simp
    have e7 : monticuleref17_Value.f a = some (wrap64 a / 2, true) := by
      unfold monticuleref17_Value.f
      rw [if_neg (by omega), uw]
      simp only [wrap64]
      split <;> (congr 2; omega)
    have e8 : monticuleref17_Index.f a = some (0, false) := by
      unfold monticuleref17_Index.f
      rw [if_pos (by omega)]
    simp [e3, e4, e5, e6, e7, e8]
  · have e3 : word_IsInt.f a = some false := by
      unfold word_IsInt.f
      rw [and1 _ (by omega) (by omega), show a % 2 = 0 by omega]
      rfl
    have e4 : word_Value.f a = some (0, false) := by
      unfold word_Value.f
      rw [e3]
      simp
    have e7 : monticuleref17_Value.f a = some (0, false) := by
      unfold monticuleref17_Value.f
      rw [if_pos (by omega)]
    by_cases h2 : a < 8589934592
    · have e5 : word_IsRef.f a = some true := by
        unfold word_IsRef.f
        rw [and1 _ (by omega) (by omega), if_pos (by omega)]
        simp [h2]
      have e6 : word_Index.f a = some (a / 2, true) := by
        unfold word_Index.f
        rw [e5]
        simp only [Option.bind_some, if_true]
        congr 2
        unfold wrap64
        omega
      have e8 : monticuleref17_Index.f a = some (a / 2, true) := by
        unfold monticuleref17_Index.f
        rw [if_neg (by omega), if_neg (by omega), uw]
        congr 2
        unfold wrap64
        omega
      simp [e3, e4, e5, e6, e7, e8]
    · have e5 : word_IsRef.f a = some false := by
        unfold word_IsRef.f
        rw [and1 _ (by omega) (by omega), if_pos (by omega)]
        simp [h2]
      have e6 : word_Index.f a = some (0, false) := by
        unfold word_Index.f
        rw [e5]
        simp
      have e8 : monticuleref17_Index.f a = some (0, false) := by
        unfold monticuleref17_Index.f
        rw [if_neg (by omega), if_pos (by omega)]
      simp [e3, e4, e5, e6, e7, e8]

end Go.Proofs.Ytbmcplnkcafikaa.Pure
