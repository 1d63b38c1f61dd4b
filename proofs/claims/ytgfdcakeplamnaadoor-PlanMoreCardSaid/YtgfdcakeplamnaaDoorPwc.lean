/- What Class of the reference comes to. -/
import Derived.Test.YtgfdcakeplamnaaDoorPAllx8
import Derived.Test.YtgfdcakeplamnaaDoorPw
namespace Go.Proofs.YtgfdcakeplamnaaDoor.PAll
open Go.RowKit Go.Proofs.YtgfdcakeplamnaaDoorW.PrintWords Go.Proofs.YtgfdcakeplamnaaDoorW.PrintLast Hd
set_option linter.unusedVariables false
set_option linter.unusedSimpArgs false
theorem bt_BL (s : ByteArray) (i : Nat) (h : i < s.size) : bt s (i : Int) = (((BL s)[i]'(by rw [BL_len]; exact h)).toNat : Int) := by
  rw [Nm.get_data s i h]
  have := bt_at s (i : Int)
  simp only [Int.toNat_natCast] at this
  exact (this h).symm
theorem sm_val (b : UInt8) : monticuleref06_small.f (b.toNat : Int) = some (Nm.smB b) := by
  unfold monticuleref06_small.f Nm.smB
  by_cases h : 97 ≤ b.toNat
  · rw [if_pos (by omega)]; simp [h]; omega
  · rw [if_neg (by omega)]; simp [h]
theorem let_val (b : UInt8) : monticuleref06_letter.f (b.toNat : Int) = some (Nm.smB b || Nm.lgB b) := by
  unfold monticuleref06_letter.f
  rw [sm_val, Option.bind_some]
  cases h : Nm.smB b with
  | true => rfl
  | false =>
    rw [if_neg (by decide), Bool.false_or]
    unfold Nm.lgB
    by_cases h : 65 ≤ b.toNat
    · rw [if_pos (by omega)]; simp [h]; omega
    · rw [if_neg (by omega)]; simp [h]
def okB (b : UInt8) : Bool := Nm.smB b || Nm.lgB b || Nm.dgB b
theorem Is_l0 (s : ByteArray) (hs : s.size ≤ 140737488351232) : ∀ (d i : Nat), s.size - i = d → i ≤ s.size → Ev (fun k => monticuleref06_Is.l0 k s (i : Int)) (((BL s).drop i).all okB)
  | 0, i, hd, hi => by
    refine Ev.step (f := fun _ => some true) (fun k => ?_) ?_
    · simp only [monticuleref06_Is.l0]; rw [if_neg (by omega)]
    · rw [List.drop_eq_nil_of_le (by rw [BL_len]; omega)]; exact Ev.now _
  | d + 1, i, hd, hi => by
    have hlt : i < s.size := by omega
    have ih := Is_l0 s hs d (i + 1) (by omega) (by omega)
    have hb := bt_BL s i hlt
    rw [List.drop_eq_getElem_cons (by rw [BL_len]; exact hlt), List.all_cons]
    generalize (BL s)[i]'(by rw [BL_len]; exact hlt) = b at *
    have hw : wrap64 ((i : Int) + 1) = ((i + 1 : Nat) : Int) := wrap_succ (by omega) (show (i : Int) < (s.size : Int) by omega) (by omega)
    by_cases h1 : (Nm.smB b || Nm.lgB b) = true
    · refine Ev.step (fun k => ?_) (by unfold okB; rw [h1, Bool.true_or, Bool.true_and]; exact ih)
      simp only [monticuleref06_Is.l0]
      rw [if_pos (by omega), if_pos (by omega), hb, let_val, Option.bind_some, if_pos h1, hw]
    · have h1' := Bool.eq_false_iff.2 h1
      by_cases h2 : Nm.dgB b = true
      · refine Ev.step (fun k => ?_) (by unfold okB; rw [h2, Bool.or_true, Bool.true_and]; exact ih)
        simp only [monticuleref06_Is.l0]
        unfold Nm.dgB at h2
        rw [Bool.and_eq_true, decide_eq_true_eq, decide_eq_true_eq] at h2
        rw [if_pos (by omega), if_pos (by omega), hb, let_val, Option.bind_some, if_neg h1, if_neg (by omega), if_neg (by omega), hw]
      · refine Ev.step (f := fun _ => some false) (fun k => ?_) (by unfold okB; rw [h1', Bool.eq_false_iff.2 h2]; exact Ev.now _)
        simp only [monticuleref06_Is.l0]
        unfold Nm.dgB at h2
        rw [Bool.and_eq_true, decide_eq_true_eq, decide_eq_true_eq] at h2
        rw [if_pos (by omega), if_pos (by omega), hb, let_val, Option.bind_some, if_neg h1]
        by_cases h3 : (b.toNat : Int) < 48
        · rw [if_pos h3]
        · rw [if_neg h3, if_pos (by omega)]
theorem refIs_val (s : ByteArray) (hs : s.size ≤ 140737488351232) : Ev (fun k => monticuleref06_Is.f k s) (Nm.isN (BL s)) := by
  have hj : Ev (fun k => monticuleref06_Is.j0 k s true) false := Ev.step (f := fun _ => some false) (fun k => by rw [monticuleref06_Is.j0, if_pos rfl]) (Ev.now _)
  by_cases h1 : (s.size : Int) < 1
  · refine Ev.congr (f := fun k => monticuleref06_Is.j0 k s true) (fun k => by unfold monticuleref06_Is.f; rw [if_pos h1]) ?_
    have e : Nm.isN (BL s) = false := by unfold Nm.isN; rw [BL_len, decide_eq_false (by omega)]; rfl
    rw [e]; exact hj
  · by_cases h2 : (s.size : Int) > 40
    · refine Ev.congr (f := fun k => monticuleref06_Is.j0 k s true) (fun k => by unfold monticuleref06_Is.f; rw [if_neg h1, if_pos h2]) ?_
      have e : Nm.isN (BL s) = false := by unfold Nm.isN; rw [BL_len, decide_eq_false (show ¬ s.size ≤ 40 by omega), Bool.and_false]; rfl
      rw [e]; exact hj
    · have hb := bt_BL s 0 (by omega)
      have hh : (BL s).headD 0 = (BL s)[0]'(by rw [BL_len]; omega) := by
        rw [List.headD_eq_head?_getD, List.head?_eq_getElem?, List.getElem?_eq_getElem (by rw [BL_len]; omega)]; rfl
      have e : Nm.isN (BL s) = ((Nm.smB ((BL s)[0]'(by rw [BL_len]; omega)) || Nm.lgB ((BL s)[0]'(by rw [BL_len]; omega))) && (BL s).all okB) := by
        unfold Nm.isN; rw [hh, decide_eq_true (show 1 ≤ (BL s).length by rw [BL_len]; omega), decide_eq_true (show (BL s).length ≤ 40 by rw [BL_len]; omega), Bool.true_and, Bool.true_and]; rfl
      rw [e]
      generalize (BL s)[0]'(by rw [BL_len]; omega) = b at *
      refine Ev.congr (f := fun k => monticuleref06_Is.j0 k s (!(Nm.smB b || Nm.lgB b))) (fun k => by unfold monticuleref06_Is.f; rw [if_neg h1, if_neg h2, if_pos (by omega), show (0 : Int) = ((0 : Nat) : Int) from rfl, hb, let_val, Option.bind_some]) ?_
      cases h3 : (Nm.smB b || Nm.lgB b) with
      | false => exact hj
      | true =>
        refine Ev.step (fun k => ?_) (Is_l0 s hs s.size 0 rfl (Nat.zero_le _))
        rw [monticuleref06_Is.j0, if_neg (by decide)]; rfl
theorem isN_head {p : ByteArray} (h : Nm.isN (BL p) = true) : ∃ b : UInt8, bt p 0 = (b.toNat : Int) ∧ (BL p).headD 0 = b ∧ (Nm.smB b || Nm.lgB b) = true := by
  have h0 := isN_pos h
  refine ⟨(BL p).headD 0, bt_head p h0, rfl, ?_⟩
  unfold Nm.isN at h
  simp only [Bool.and_eq_true] at h
  exact h.1.2
theorem sm_lg (b : UInt8) : (Nm.smB b && Nm.lgB b) = false := by
  unfold Nm.smB Nm.lgB
  rw [Bool.eq_false_iff]; simp; omega
theorem refClass_val (s : ByteArray) (hs : s.size ≤ 140737488351232) : Ev (fun k => monticuleref06_Class.f k s) (Nm.clsN (BL s)) := by
  obtain ⟨K, hI⟩ := ev_out (refIs_val s hs)
  refine ev_mk K (fun k hk => ?_)
  unfold monticuleref06_Class.f Nm.clsN
  rw [hI k hk, Option.bind_some]
  cases hi : Nm.isN (BL s) with
  | false => rfl
  | true =>
    obtain ⟨b, e1, e2, e3⟩ := isN_head hi
    have h0 := isN_pos hi
    rw [if_pos rfl, if_pos (by omega), e1, sm_val, Option.bind_some, Bool.true_and, e2]
    have h4 := sm_lg b
    cases h1 : Nm.smB b <;> cases h2 : Nm.lgB b <;> rw [h1, h2] at e3 h4 <;> first | (revert h4; decide) | (revert e3; decide) | rfl
end Go.Proofs.YtgfdcakeplamnaaDoor.PAll
