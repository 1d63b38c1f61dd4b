/- The plain values of the printed functions on classes' and variables' names. -/
import Derived.Test.YtjloioalhgifbaaDoorPAllx4
import Derived.Test.YtjloioalhgifbaaDoorPn
namespace Go.Proofs.YtjloioalhgifbaaDoor.PAll
open Go.RowKit Go.Proofs.YtjloioalhgifbaaDoorW.PrintWords Go.Proofs.YtjloioalhgifbaaDoorW.PrintLast
set_option linter.unusedVariables false
set_option linter.unusedSimpArgs false
theorem isN_pos {p : ByteArray} (h : Nm.isN (BL p) = true) : 0 < p.size := (lowN_small h).1
theorem isN_head {p : ByteArray} (h : Nm.isN (BL p) = true) : ∃ b : UInt8, bt p 0 = (b.toNat : Int) ∧ (BL p).headD 0 = b ∧ (Nm.smB b || Nm.lgB b) = true := by
  have h0 := isN_pos h
  refine ⟨(BL p).headD 0, bt_head p h0, rfl, ?_⟩
  unfold Nm.isN at h
  simp only [Bool.and_eq_true] at h
  exact h.1.2
theorem sm_lg (b : UInt8) : (Nm.smB b && Nm.lgB b) = false := by
  unfold Nm.smB Nm.lgB
  rw [Bool.eq_false_iff]; simp; omega
theorem class_val (p : ByteArray) : name_Class.f p = some (Nm.clsN (BL p)) := by
  unfold name_Class.f name_Is.f Nm.clsN
  rw [Option.bind_some]
  cases hi : Nm.isN p.data.toList with
  | false => rfl
  | true =>
    have h0 := isN_pos hi
    rw [if_pos rfl, if_pos (by omega), bt_head p h0, Bool.true_and]
    rw [show wrap32 (((p.data.toList.headD 0).toNat : Nat) : Int) = ((p.data.toList.headD 0).toNat : Int) by have := (p.data.toList.headD 0).toNat_lt; unfold wrap32; omega]
    rw [large_at _ (Nm.lgB (p.data.toList.headD 0)) (by unfold Nm.lgB; rw [Bool.eq_iff_iff]; simp; omega)]
    rfl
theorem refClass_val (s : ByteArray) (hs : s.size ≤ 140737488351232) : Ev (fun k => monticuleref06_Class.f k s) (Nm.clsN (BL s)) := by
  obtain ⟨K, hI⟩ := ev_out (refIs_val s hs)
  refine ev_mk K (fun k hk => ?_)
  unfold monticuleref06_Class.f Nm.clsN
  rw [hI k hk, Option.bind_some]
  cases hi : Nm.isN (BL s) with
  | false => rfl
  | true =>
    obtain ⟨b, e1, e2, e3⟩ := isN_head hi
    have h0 := isN_pos hi
    rw [if_pos rfl, if_pos (by omega), e1, sm_val, Option.bind_some, Bool.true_and, e2]
    have h4 := sm_lg b
    cases h1 : Nm.smB b <;> cases h2 : Nm.lgB b <;> rw [h1, h2] at e3 h4 <;> first | (revert h4; decide) | (revert e3; decide) | rfl
theorem Idx_l0 (l : List ByteArray) (s : ByteArray) (hl : l.length ≤ 140737488355328) : ∀ (d i : Nat), l.length - i = d → i ≤ l.length → ∃ r : Int, Ev (fun k => slices_Index_string_string.l0 k l s (l.length : Int) (i : Int)) r ∧ (decide (r ≥ 0) = inB (l.drop i) s)
  | 0, i, hd, hi => by
    refine ⟨-1, Ev.step (f := fun _ => some (-1)) (fun k => ?_) (Ev.now _), ?_⟩
    · rw [slices_Index_string_string.l0, if_neg (by omega)]
    · rw [List.drop_eq_nil_of_le (by omega)]; rfl
  | d + 1, i, hd, hi => by
    have hlt : i < l.length := by omega
    have hw : wrap64 ((i : Int) + 1) = ((i + 1 : Nat) : Int) := wrap_succ (by omega) (show (i : Int) < (l.length : Int) by omega) (by omega)
    rw [List.drop_eq_getElem_cons hlt]
    by_cases h1 : l[i] = s
    · refine ⟨(i : Int), Ev.step (f := fun _ => some (i : Int)) (fun k => ?_) (Ev.now _), ?_⟩
      · rw [slices_Index_string_string.l0, if_pos (by omega), if_pos (by omega), if_pos (by omega), rdOf_get l i hlt, if_pos (by rw [h1])]
      · unfold inB; rw [List.any_cons, decide_eq_true h1, decide_eq_true (show (i : Int) ≥ 0 by omega)]; rfl
    · obtain ⟨r, hr, he⟩ := Idx_l0 l s hl d (i + 1) (by omega) (by omega)
      refine ⟨r, Ev.step (fun k => ?_) hr, ?_⟩
      · rw [slices_Index_string_string.l0, if_pos (by omega), if_pos (by omega), if_pos (by omega), rdOf_get l i hlt, if_neg (by rw [toList_BL, toList_BL]; exact fun h => h1 (BL_inj h).symm), hw]
      · rw [he]; unfold inB; rw [List.any_cons, decide_eq_false h1, Bool.false_or]
theorem Contains_val (l : List ByteArray) (s : ByteArray) (hl : l.length ≤ 140737488355328) : Ev (fun k => slices_Contains_string_string.f k l s) (inB l s) := by
  obtain ⟨r, hr, he⟩ := Idx_l0 l s hl _ 0 rfl (Nat.zero_le _)
  rw [List.drop_zero] at he
  refine Ev.congr (fun k => by unfold slices_Contains_string_string.f; rfl) (Ev.bind hr ⟨0, fun _ _ => ?_⟩)
  rw [he]
/-- Names that no variable has; classes that are there always. -/
def reservedB : List ByteArray := [⟨#[115, 101, 108, 102]⟩, ⟨#[115, 117, 112, 101, 114]⟩, ⟨#[110, 105, 108]⟩, ⟨#[116, 114, 117, 101]⟩, ⟨#[102, 97, 108, 115, 101]⟩]
def alwaysB : List ByteArray := [⟨#[79, 98, 106, 101, 99, 116]⟩, ⟨#[78, 105, 108]⟩, ⟨#[66, 111, 111, 108, 101, 97, 110]⟩, ⟨#[73, 110, 116, 101, 103, 101, 114]⟩, ⟨#[83, 116, 114, 105, 110, 103]⟩, ⟨#[83, 121, 109, 98, 111, 108]⟩, ⟨#[65, 114, 114, 97, 121]⟩, ⟨#[66, 108, 111, 99, 107]⟩, ⟨#[67, 108, 97, 115, 115]⟩, ⟨#[83, 121, 115, 116, 101, 109]⟩]
def varB (s : ByteArray) : Bool := Nm.lowN (BL s) && !(inB reservedB s)
def alwB (s : ByteArray) : Bool := inB alwaysB s
theorem Var_val (s : ByteArray) : Ev (fun k => name_Var.f k s) (varB s) := by
  unfold varB
  refine Ev.congr (fun k => by unfold name_Var.f; rw [lower_val, Option.bind_some]) ?_
  cases h : Nm.lowN (BL s) with
  | false => exact Ev.now _
  | true =>
    refine Ev.congr (f := fun k => (slices_Contains_string_string.f k reservedB s).bind fun t => some (!t)) (fun k => by rw [if_pos rfl]; unfold name_reserved.f; rw [Option.bind_some]; rfl) (Ev.bind (Contains_val reservedB s (by decide)) (Ev.now _))
theorem refVar_val (s : ByteArray) (hs : s.size ≤ 140737488351232) : Ev (fun k => monticuleref06_Var.f k s) (varB s) := by
  obtain ⟨K, hI⟩ := ev_out (refIs_val s hs)
  obtain ⟨K2, hC⟩ := ev_out (refIn_val reservedB s (by decide))
  refine ev_mk (max K K2) (fun k hk => ?_)
  unfold monticuleref06_Var.f varB Nm.lowN
  rw [hI k (by omega), Option.bind_some]
  cases hi : Nm.isN (BL s) with
  | false => rfl
  | true =>
    obtain ⟨b, e1, e2, e3⟩ := isN_head hi
    have h0 := isN_pos hi
    rw [if_pos rfl, if_pos (by omega), e1, sm_val, Option.bind_some, Bool.true_and, e2]
    cases h1 : Nm.smB b with
    | false => rfl
    | true =>
      rw [if_pos rfl, Bool.true_and]
      show ((monticuleref06_In.f k reservedB s).bind _) = _
      rw [hC k (by omega), Option.bind_some]
theorem Always_val (s : ByteArray) : Ev (fun k => name_Always.f k s) (alwB s) :=
  Ev.congr (f := fun k => (slices_Contains_string_string.f k alwaysB s).bind fun t => some t) (fun k => by unfold name_Always.f name_always.f; rw [Option.bind_some]; rfl) (Ev.bind (Contains_val alwaysB s (by decide)) (Ev.now _))
theorem refAlways_val (s : ByteArray) : Ev (fun k => monticuleref06_Always.f k s) (alwB s) :=
  Ev.congr (f := fun k => (monticuleref06_In.f k alwaysB s).bind fun t => some t) (fun k => by unfold monticuleref06_Always.f; rfl) (Ev.bind (refIn_val alwaysB s (by decide)) (Ev.now _))
end Go.Proofs.YtjloioalhgifbaaDoor.PAll
