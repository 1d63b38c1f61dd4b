/- PlanNeeded's plain statement: who needs a package, and whether all needs are there. -/
import Derived.Test.YtgfdcakeplamnaaDoorPAllx10
import Derived.Test.YtgfdcakeplamnaaDoorPAllx5
import Derived.Test.YtgfdcakeplamnaaDoorPAllx8
import Derived.Test.YtgfdcakeplamnaaDoorPAllx9
import Derived.Test.YtgfdcakeplamnaaDoorPf
import Derived.Test.YtgfdcakeplamnaaDoorPws
namespace Go.Proofs.YtgfdcakeplamnaaDoor.Pure
open Go.RowKit Go.Proofs.YtgfdcakeplamnaaDoor.PAll Go.Proofs.YtgfdcakeplamnaaDoorW.PrintWords Go.Proofs.YtgfdcakeplamnaaDoorW.PrintLast Go.Proofs.YtgfdcakeplamnaaDoor.PAll.Hd Go.Proofs.YtgfdcakeplamnaaDoor.PAll.Hg
set_option linter.unusedVariables false
theorem awake28 : Ev (fun k => monticulelaw28_awake.f k) true := Ev.of (fun k => monticulelaw28_awake.mono k) (k := 70) (by kernel_rfl)
theorem rd42 (l : List S42) (i : Nat) (hi : i < l.length) : rd_T42 l (i : Int) = l[i] := by
  unfold rd_T42
  rw [List.getD_eq_getElem?_getD, Int.toNat_natCast, List.getElem?_eq_getElem hi]
  rfl
/-- Who needs a package. -/
def neededL (l : List S42) (nm : ByteArray) : List ByteArray := (l.filter fun x => inB x.f2 nm).map fun x => x.f0
theorem needed_cons (x : S42) (l : List S42) (nm : ByteArray) : neededL (x :: l) nm = (if inB x.f2 nm = true then [x.f0] else []) ++ neededL l nm := by
  unfold neededL
  rw [List.filter_cons]
  split <;> rfl
theorem needed_l0 (all : List S42) (nm : ByteArray) (hl : all.length ≤ 12) (hn : ∀ x ∈ all, x.f2.length ≤ 20) : ∀ (d i : Nat), all.length - i = d → i ≤ all.length → ∀ acc : List ByteArray, acc.length ≤ i →
    Ev (fun k => plan_Needed.l0 k nm acc all (all.length : Int) (i : Int)) (acc ++ neededL (all.drop i) nm)
  | 0, i, hd, hi, acc, ha => by
    rw [List.drop_eq_nil_of_le (by omega), show neededL [] nm = [] from rfl, List.append_nil]
    exact Ev.step (f := fun _ => some acc) (fun k => by rw [plan_Needed.l0, if_neg (by omega)]) (Ev.now _)
  | d + 1, i, hd, hi, acc, ha => by
    have hlt : i < all.length := by omega
    have hv := Contains_val (all[i]).f2 nm (by have := hn _ (List.getElem_mem hlt); omega)
    have hstep : ∀ k, plan_Needed.l0 (k + 1) nm acc all (all.length : Int) (i : Int) = (slices_Contains_string_string.f k (all[i]).f2 nm).bind fun t263 => (if t263 = true then (if acc.length < 8796093022208 then (plan_Needed.l0 k nm (acc ++ [(all[i]).f0]) all (all.length : Int) ((i + 1 : Nat) : Int)) else (none)) else (plan_Needed.l0 k nm acc all (all.length : Int) ((i + 1 : Nat) : Int))) := fun k => by
      rw [plan_Needed.l0, if_pos (by omega), if_pos (by omega), if_pos (by omega), rd42 all i hlt, w64 hlt (by omega)]
    rw [List.drop_eq_getElem_cons hlt, needed_cons]
    cases c : inB (all[i]).f2 nm with
    | true =>
      rw [c] at hv
      have ih := needed_l0 all nm hl hn d (i + 1) (by omega) (by omega) (acc ++ [(all[i]).f0]) (by rw [List.length_append]; simp only [List.length_cons, List.length_nil]; omega)
      rw [if_pos rfl, ← List.append_assoc]
      exact Ev.step hstep (Ev.bind hv (Ev.congr (fun k => by rw [if_pos rfl, if_pos (by omega)]) ih))
    | false =>
      rw [c] at hv
      have ih := needed_l0 all nm hl hn d (i + 1) (by omega) (by omega) acc (by omega)
      rw [if_neg Bool.false_ne_true, List.nil_append]
      exact Ev.step hstep (Ev.bind hv (Ev.congr (fun k => if_neg Bool.false_ne_true) ih))
theorem refNeeded_l0 (all : List S42) (nm : ByteArray) (hl : all.length ≤ 12) (hn : ∀ x ∈ all, x.f2.length ≤ 20) : ∀ (d i : Nat), all.length - i = d → i ≤ all.length → ∀ acc : List ByteArray, acc.length ≤ i →
    Ev (fun k => monticuleref28_Needed.l0 k all nm acc (i : Int)) (acc ++ neededL (all.drop i) nm)
  | 0, i, hd, hi, acc, ha => by
    rw [List.drop_eq_nil_of_le (by omega), show neededL [] nm = [] from rfl, List.append_nil]
    exact Ev.step (f := fun _ => some acc) (fun k => by rw [monticuleref28_Needed.l0, if_neg (by omega)]) (Ev.now _)
  | d + 1, i, hd, hi, acc, ha => by
    have hlt : i < all.length := by omega
    have hv := refIn_val (all[i]).f2 nm (by have := hn _ (List.getElem_mem hlt); omega)
    have hstep : ∀ k, monticuleref28_Needed.l0 (k + 1) all nm acc (i : Int) = (monticuleref06_In.f k (all[i]).f2 nm).bind fun t268 => (if t268 = true then (if acc.length < 8796093022208 then (monticuleref28_Needed.l0 k all nm (acc ++ [(all[i]).f0]) ((i + 1 : Nat) : Int)) else (none)) else (monticuleref28_Needed.l0 k all nm acc ((i + 1 : Nat) : Int))) := fun k => by
      rw [monticuleref28_Needed.l0, if_pos (by omega), if_pos (by omega), rd42 all i hlt, w64 hlt (by omega)]
    rw [List.drop_eq_getElem_cons hlt, needed_cons]
    cases c : inB (all[i]).f2 nm with
    | true =>
      rw [c] at hv
      have ih := refNeeded_l0 all nm hl hn d (i + 1) (by omega) (by omega) (acc ++ [(all[i]).f0]) (by rw [List.length_append]; simp only [List.length_cons, List.length_nil]; omega)
      rw [if_pos rfl, ← List.append_assoc]
      exact Ev.step hstep (Ev.bind hv (Ev.congr (fun k => by rw [if_pos rfl, if_pos (by omega)]) ih))
    | false =>
      rw [c] at hv
      have ih := refNeeded_l0 all nm hl hn d (i + 1) (by omega) (by omega) acc (by omega)
      rw [if_neg Bool.false_ne_true, List.nil_append]
      exact Ev.step hstep (Ev.bind hv (Ev.congr (fun k => if_neg Bool.false_ne_true) ih))
theorem has_in (all : List S42) (n : ByteArray) : inB (all.map fun x => x.f0) n = hasN all n := by
  unfold inB hasN
  rw [List.any_map]
  congr 1
  funext x
  exact (beq_text x.f0 n).symm
theorem refClosed_l2 (all : List S42) (hl : all.length ≤ 12) (hn : ∀ x ∈ all, x.f2.length ≤ 20) (i : Nat) (hi : i < all.length) (b : Bool) (hnext : Ev (fun k => monticuleref28_Closed.l1 k all (all.map fun x => x.f0) ((i + 1 : Nat) : Int)) b) :
    ∀ (d j : Nat), (all[i]).f2.length - j = d → j ≤ (all[i]).f2.length → Ev (fun k => monticuleref28_Closed.l2 k all (all.map fun x => x.f0) (i : Int) (j : Int)) (!lacks all ((all[i]).f2.drop j) && b)
  | 0, j, hd, hj => by
    rw [List.drop_eq_nil_of_le (by omega), show lacks all [] = false from rfl, Bool.not_false, Bool.true_and]
    exact Ev.step (fun k => by rw [monticuleref28_Closed.l2, if_pos (by omega), if_pos (by omega), rd42 all i hi, if_neg (by omega), w64 hi (by omega)]) hnext
  | d + 1, j, hd, hj => by
    have hlt : j < (all[i]).f2.length := by omega
    have hnl := hn _ (List.getElem_mem hi)
    have hv := refIn_val (all.map fun x => x.f0) ((all[i]).f2[j]) (by rw [List.length_map]; omega)
    rw [has_in] at hv
    have hstep : ∀ k, monticuleref28_Closed.l2 (k + 1) all (all.map fun x => x.f0) (i : Int) (j : Int) = (monticuleref06_In.f k (all.map fun x => x.f0) ((all[i]).f2[j])).bind fun t280 => (if t280 = true then (monticuleref28_Closed.l2 k all (all.map fun x => x.f0) (i : Int) ((j + 1 : Nat) : Int)) else (some false)) := fun k => by
      rw [monticuleref28_Closed.l2, if_pos (by omega), if_pos (by omega), rd42 all i hi, if_pos (by omega), if_pos (by omega), rdOf_get (all[i]).f2 j hlt, w64 hlt (by omega)]
    have e : lacks all ((all[i]).f2.drop j) = (!hasN all ((all[i]).f2[j]) || lacks all ((all[i]).f2.drop (j + 1))) := by
      rw [List.drop_eq_getElem_cons hlt]
      rfl
    rw [e]
    cases c : hasN all ((all[i]).f2[j]) with
    | true =>
      rw [c] at hv
      exact Ev.step hstep (Ev.bind hv (Ev.congr (fun k => if_pos rfl) (refClosed_l2 all hl hn i hi b hnext d (j + 1) (by omega) (by omega))))
    | false =>
      rw [c] at hv
      exact Ev.step hstep (Ev.bind hv (Ev.congr (f := fun _ => some false) (fun k => if_neg Bool.false_ne_true) (Ev.now _)))
theorem refClosed_l1 (all : List S42) (hl : all.length ≤ 12) (hn : ∀ x ∈ all, x.f2.length ≤ 20) : ∀ (d i : Nat), all.length - i = d → i ≤ all.length → Ev (fun k => monticuleref28_Closed.l1 k all (all.map fun x => x.f0) (i : Int)) (!((all.drop i).any fun l => lacks all l.f2))
  | 0, i, hd, hi => by
    rw [List.drop_eq_nil_of_le (by omega)]
    exact Ev.step (f := fun _ => some true) (fun k => by rw [monticuleref28_Closed.l1, if_neg (by omega)]) (Ev.now _)
  | d + 1, i, hd, hi => by
    have hlt : i < all.length := by omega
    have h2 := refClosed_l2 all hl hn i hlt _ (refClosed_l1 all hl hn d (i + 1) (by omega) (by omega)) _ 0 rfl (Nat.zero_le _)
    rw [List.drop_zero] at h2
    rw [List.drop_eq_getElem_cons hlt, List.any_cons, Bool.not_or]
    exact Ev.step (fun k => by rw [monticuleref28_Closed.l1, if_pos (by omega)]; rfl) h2
theorem refClosed_l0 (all : List S42) (hl : all.length ≤ 12) (hn : ∀ x ∈ all, x.f2.length ≤ 20) : ∀ (d i : Nat), all.length - i = d → i ≤ all.length → Ev (fun k => monticuleref28_Closed.l0 k all ((all.take i).map fun x => x.f0) (i : Int)) (closedB all)
  | 0, i, hd, hi => by
    have h1 := refClosed_l1 all hl hn _ 0 rfl (Nat.zero_le _)
    rw [List.drop_zero] at h1
    rw [List.take_of_length_le (show all.length ≤ i by omega)]
    exact Ev.step (fun k => by rw [monticuleref28_Closed.l0, if_neg (by omega)]; rfl) h1
  | d + 1, i, hd, hi => by
    have hlt : i < all.length := by omega
    have ih := refClosed_l0 all hl hn d (i + 1) (by omega) (by omega)
    rw [List.take_succ_eq_append_getElem hlt, List.map_append] at ih
    exact Ev.step (fun k => by rw [monticuleref28_Closed.l0, if_pos (by omega), if_pos (by omega), if_pos (by rw [List.length_map, List.length_take]; omega), rd42 all i hlt, w64 hlt (by omega)]; rfl) ih
theorem end_ok (all : List S42) (nm : ByteArray) (hl : all.length ≤ 12) (hn : ∀ x ∈ all, x.f2.length ≤ 20) : Ev (fun k => monticulelaw28_PlanNeeded.l0 k all nm (all.length : Int)) true := by
  have h1 := needed_l0 all nm hl hn _ 0 rfl (Nat.zero_le _) [] (Nat.zero_le _)
  have h2 := refNeeded_l0 all nm hl hn _ 0 rfl (Nat.zero_le _) [] (Nat.zero_le _)
  rw [List.drop_zero, List.nil_append] at h1 h2
  have hnl : (neededL all nm).length ≤ 12 := by unfold neededL; rw [List.length_map]; exact Nat.le_trans (List.length_filter_le _ _) hl
  have h3 := Same_val (neededL all nm) (neededL all nm) (by omega)
  rw [decide_eq_true (rfl : neededL all nm = neededL all nm)] at h3
  have h4 := refClosed_l0 all hl hn _ 0 rfl (Nat.zero_le _)
  rw [List.take_zero, List.map_nil] at h4
  have h5 : plan_Closed.f all = some (closedB all) := by
    unfold plan_Closed.f
    rw [if_pos]
    simp only [Bool.and_eq_true, decide_eq_true_eq, List.all_eq_true]
    exact ⟨by omega, fun x hx => by have := hn x hx; omega⟩
  have hstep : ∀ k, monticulelaw28_PlanNeeded.l0 (k + 1) all nm (all.length : Int) = (plan_Needed.f k all nm).bind fun t285 => ((monticuleref28_Needed.f k all nm).bind fun t288 => ((monticuleref01_Same.f k t285 t288).bind fun t291 => (if t291 = true then ((plan_Closed.f all).bind fun t292 => ((monticuleref28_Closed.f k all).bind fun t293 => (some (t292 == t293)))) else (some false)))) := fun k => by
    rw [monticulelaw28_PlanNeeded.l0, if_neg (by omega)]
  refine Ev.step hstep (Ev.bind (Ev.congr (fun k => by unfold plan_Needed.f; rfl) h1) (Ev.bind (Ev.congr (fun k => by unfold monticuleref28_Needed.f; rfl) h2) (Ev.bind h3 ?_)))
  refine Ev.congr (f := fun k => (monticuleref28_Closed.f k all).bind fun t293 => some (closedB all == t293)) (fun k => by rw [if_pos rfl, h5, Option.bind_some]) (Ev.bind (Ev.congr (fun k => by unfold monticuleref28_Closed.f; rfl) h4) (Ev.congr (f := fun _ => some true) (fun k => by rw [beq_self_eq_true]) (Ev.now _)))
theorem PlanNeeded (all : List S42) (nm : ByteArray) : ∃ k, monticulelaw28_PlanNeeded.f k all nm = some true := by
  have haw := awake28
  have hjt : Ev (fun k => monticulelaw28_PlanNeeded.j0 k all nm true) true := Ev.step (fun k => by rw [monticulelaw28_PlanNeeded.j0, if_pos rfl]) (Ev.bind haw (Ev.now true))
  have hmain : Ev (fun k => monticulelaw28_PlanNeeded.f k all nm) true := by
    have hf : ∀ k, monticulelaw28_PlanNeeded.f k all nm = (monticulelaw28_awake.f k).bind fun t281 => (if t281 = true then (if (all.length : Int) > 12 then (monticulelaw28_PlanNeeded.j0 k all nm true) else (monticulelaw28_PlanNeeded.j0 k all nm (decide ((nm.size : Int) > 60)))) else (monticulelaw28_PlanNeeded.j0 k all nm true)) := fun k => by unfold monticulelaw28_PlanNeeded.f; rfl
    by_cases hl : all.length ≤ 12
    · have main : ∀ (d i : Nat), all.length - i = d → i ≤ all.length → (∀ x ∈ all.take i, x.f2.length ≤ 20) → Ev (fun k => monticulelaw28_PlanNeeded.l0 k all nm (i : Int)) true := by
        intro d
        induction d with
        | zero =>
          intro i hd hi hn
          obtain rfl : i = all.length := by omega
          rw [List.take_length] at hn
          exact end_ok all nm hl hn
        | succ d ih =>
          intro i hd hi hn
          have hlt : i < all.length := by omega
          obtain ⟨b, hb, hfb⟩ := few_tot (all[i]).f2
          have hstep : ∀ k, monticulelaw28_PlanNeeded.l0 (k + 1) all nm (i : Int) = (monticulelaw28_few.f k (all[i]).f2).bind fun t284 => (if t284 = true then (monticulelaw28_PlanNeeded.l0 k all nm ((i + 1 : Nat) : Int)) else (some true)) := fun k => by
            rw [monticulelaw28_PlanNeeded.l0, if_pos (by omega), if_pos (by omega), rd42 all i hlt, w64 hlt (by omega)]
          cases b with
          | true => exact Ev.step hstep (Ev.bind hb (Ev.congr (fun k => if_pos rfl) (ih (i + 1) (by omega) (by omega) (fun x hx => by
              rw [List.take_succ_eq_append_getElem hlt] at hx
              rcases List.mem_append.1 hx with hx | hx
              · exact hn x hx
              · rw [List.mem_singleton] at hx
                subst hx
                exact (hfb rfl).1))))
          | false => exact Ev.step hstep (Ev.bind hb (Ev.congr (f := fun _ => some true) (fun k => if_neg Bool.false_ne_true) (Ev.now _)))
      have h0 := main _ 0 rfl (Nat.zero_le _) (fun x hx => by rw [List.take_zero] at hx; cases hx)
      refine Ev.congr hf (Ev.bind haw (Ev.congr (fun k => by rw [if_pos rfl, if_neg (by omega)]) ?_))
      cases hd : decide ((nm.size : Int) > 60) with
      | true => exact hjt
      | false => exact Ev.step (fun k => by rw [monticulelaw28_PlanNeeded.j0, if_neg Bool.false_ne_true]; rfl) h0
    · exact Ev.congr hf (Ev.bind haw (Ev.congr (fun k => by rw [if_pos rfl, if_pos (by omega)]) hjt))
  obtain ⟨K, h⟩ := ev_out hmain
  exact ⟨K, h K (Nat.le_refl _)⟩
end Go.Proofs.YtgfdcakeplamnaaDoor.Pure
