/- Lists that are the same; texts that are. -/
import Derived.Test.YtgfdcakeplamnaaDoorPAllx8
import Derived.Test.YtgfdcakeplamnaaDoorPw
namespace Go.Proofs.YtgfdcakeplamnaaDoor.PAll
open Go.RowKit Go.Proofs.YtgfdcakeplamnaaDoorW.PrintWords Go.Proofs.YtgfdcakeplamnaaDoorW.PrintLast Hd
set_option linter.unusedVariables false
set_option linter.unusedSimpArgs false
theorem Same_l0 (a b : List ByteArray) (hl : a.length ≤ 140737488355328) (he : a.length = b.length) : ∀ (d i : Nat), a.length - i = d → i ≤ a.length → Ev (fun k => monticuleref01_Same.l0 k a b (i : Int)) (decide (a.drop i = b.drop i))
  | 0, i, hd, hi => by
    refine Ev.step (f := fun _ => some true) (fun k => ?_) ?_
    · simp only [monticuleref01_Same.l0]; rw [if_neg (by omega)]
    · rw [List.drop_eq_nil_of_le (by omega), List.drop_eq_nil_of_le (by omega)]; exact Ev.now _
  | d + 1, i, hd, hi => by
    have hlt : i < a.length := by omega
    have ih := Same_l0 a b hl he d (i + 1) (by omega) (by omega)
    have hw : wrap64 ((i : Int) + 1) = ((i + 1 : Nat) : Int) := wrap_succ (by omega) (show (i : Int) < (a.length : Int) by omega) (by omega)
    rw [List.drop_eq_getElem_cons hlt, List.drop_eq_getElem_cons (show i < b.length by omega)]
    by_cases h1 : a[i] = b[i]'(by omega)
    · have e : decide (a[i] :: a.drop (i + 1) = b[i]'(by omega) :: b.drop (i + 1)) = decide (a.drop (i + 1) = b.drop (i + 1)) := by
        rw [Bool.eq_iff_iff, decide_eq_true_eq, decide_eq_true_eq]
        exact ⟨fun h => (List.cons.inj h).2, fun h => by rw [h1, h]⟩
      rw [e]
      refine Ev.step (fun k => ?_) ih
      simp only [monticuleref01_Same.l0]
      rw [if_pos (by omega), if_pos (by omega), if_pos (by omega), rdOf_get a i hlt, rdOf_get b i (by omega), if_pos (by rw [h1]), hw]
    · refine Ev.step (f := fun _ => some false) (fun k => ?_) (by rw [decide_eq_false (fun h => h1 (List.cons.inj h).1)]; exact Ev.now _)
      simp only [monticuleref01_Same.l0]
      rw [if_pos (by omega), if_pos (by omega), if_pos (by omega), rdOf_get a i hlt, rdOf_get b i (by omega), if_neg (by rw [toList_BL, toList_BL]; exact fun h => h1 (BL_inj h))]
theorem Same_val (a b : List ByteArray) (hl : a.length ≤ 140737488355328) : Ev (fun k => monticuleref01_Same.f k a b) (decide (a = b)) := by
  by_cases h : a.length = b.length
  · refine Ev.congr (fun k => ?_) (Same_l0 a b hl h _ 0 rfl (Nat.zero_le _))
    unfold monticuleref01_Same.f; rw [if_pos (by omega)]; rfl
  · refine Ev.congr (f := fun _ => some false) (fun k => ?_) (by rw [decide_eq_false (fun e => h (by rw [e]))]; exact Ev.now _)
    unfold monticuleref01_Same.f; rw [if_neg (by omega)]
theorem toList_eq (s t : ByteArray) : (s.toList = t.toList) ↔ s = t := by
  rw [toList_BL, toList_BL]
  exact ⟨BL_inj, fun h => by rw [h]⟩
theorem beq_text (s t : ByteArray) : (s.toList == t.toList) = decide (s = t) := by
  rw [Bool.eq_iff_iff, beq_iff_eq, decide_eq_true_eq]; exact toList_eq s t
end Go.Proofs.YtgfdcakeplamnaaDoor.PAll
