/- What plan.Order's answer is like. -/
import Derived.Test.YtgfdcakeplamnaaDoorPAllx4
import Derived.Test.YtgfdcakeplamnaaDoorPAllx5
import Derived.Test.YtgfdcakeplamnaaDoorPg
namespace Go.Proofs.YtgfdcakeplamnaaDoor.PAll
open Go.RowKit Go.Proofs.YtgfdcakeplamnaaDoorW.PrintWords Go.Proofs.YtgfdcakeplamnaaDoorW.PrintLast Hd
set_option linter.unusedVariables false
theorem sortF_spec (n : Nat) (h0 : 0 < n) (cf : Fin n → Fin n → Int) (hS : Sort.SWO (@ltOf (Fin n) cf)) : (sortF n h0 cf).Perm (List.finRange n) ∧ (sortF n h0 cf).Pairwise (fun a b => ltOf cf b a = false) := by
  letI : Inhabited (Fin n) := ⟨⟨0, h0⟩⟩
  have hsz : (List.finRange n).toArray.size = n := by simp
  obtain ⟨hp, hs⟩ := Sort.insertionSort_holds (lt := ltOf cf) hS (List.finRange n).toArray 0 n (Nat.zero_le _) (by rw [hsz]; exact Nat.le_refl _)
  obtain ⟨d', hd'⟩ : ∃ d', d' = Sort.insertionSort (ltOf cf) (List.finRange n).toArray 0 n := ⟨_, rfl⟩
  have e : sortF n h0 cf = d'.toList := by rw [hd']; rfl
  rw [← hd'] at hp hs
  rw [e]
  have hds : d'.size = n := by rw [hp.1, hsz]
  constructor
  · have h3 := hp.2.2
    have e1 : ∀ (b : Array (Fin n)), b.size = n → (b.extract 0 n).toList = b.toList := fun b hb => by
      rw [Array.toList_extract, List.extract_eq_take_drop, List.drop_zero]
      exact List.take_of_length_le (by have : b.toList.length = b.size := by simp
                                       omega)
    rw [e1 _ hds, e1 _ hsz] at h3
    exact h3
  · rw [List.pairwise_iff_getElem]
    intro i j hi hj hij
    have hdl : d'.toList.length = n := by simpa using hds
    have := hs i j (Nat.zero_le _) hij (by omega)
    rw [getElem!_pos d' j (by omega), getElem!_pos d' i (by omega)] at this
    exact this
/-- The numbers below n. -/
def nums (n : Nat) : List Int := (List.range n).map fun i : Nat => (i : Int)
theorem mem_nums {n : Nat} {x : Int} : x ∈ nums n ↔ 0 ≤ x ∧ x < (n : Int) := by
  unfold nums
  rw [List.mem_map]
  constructor
  · rintro ⟨i, hi, rfl⟩
    have := List.mem_range.1 hi
    omega
  · intro h
    exact ⟨x.toNat, List.mem_range.2 (by omega), by omega⟩
theorem nums_nodup (n : Nat) : (nums n).Nodup := by
  unfold nums
  rw [List.Nodup, List.pairwise_map]
  exact (List.nodup_range (n := n)).imp (fun h e => h (by omega))
theorem nums_len (n : Nat) : (nums n).length = n := by simp [nums]
theorem sortL_perm (ps : List S34) : (sortL ps).Perm (nums ps.length) := by
  unfold sortL
  by_cases h : 0 < ps.length
  · rw [dif_pos h]
    have := (sortF_spec ps.length h (fun x y => cmpN ps (x.val : Int) (y.val : Int)) (swo_cmp ps)).1.map (fun i : Fin ps.length => (i.val : Int))
    rw [← range_fin] at this
    exact this
  · rw [dif_neg h, show ps.length = 0 by omega]
    exact List.Perm.refl _
theorem sortL_sorted (ps : List S34) : (sortL ps).Pairwise (fun a b => Op.bytesLess (nameP ps b).toList (nameP ps a).toList = false) := by
  unfold sortL
  by_cases h : 0 < ps.length
  · rw [dif_pos h, List.pairwise_map]
    exact (sortF_spec ps.length h (fun x y => cmpN ps (x.val : Int) (y.val : Int)) (swo_cmp ps)).2.imp (fun hh => (lt_cmp ps _ _).symm.trans hh)
  · rw [dif_neg h]
    exact List.Pairwise.nil
theorem erase_perm (l : List Int) (x : Nat) (hx : x < l.length) : (l[x] :: l.eraseIdx x).Perm l := by
  rw [List.eraseIdx_eq_take_drop_succ]
  have h : l = l.take x ++ l[x] :: l.drop (x + 1) := by
    rw [← List.drop_eq_getElem_cons hx, List.take_append_drop]
  conv => rhs; rw [h]
  exact List.perm_middle.symm
/-- Each in its turn needs none of those that follow, nor itself. -/
def OkSeq (ps : List S34) : List Int → Prop
  | [] => True
  | a :: s => (∀ q ∈ a :: s, nameP ps q ∉ (rd_T34 ps a).f2) ∧ OkSeq ps s
theorem planF_spec (ps : List S34) : ∀ (m : Nat) (left out : List Int), left.length = m →
    ((planF ps m left out).2.1 = 0 ∧ ∃ seq, (planF ps m left out).1 = out ++ seq ∧ seq.Perm left ∧ OkSeq ps seq) ∨
    ((planF ps m left out).2.1 = 71 ∧ (planF ps m left out).1 = [] ∧ ∃ a ∈ left, (planF ps m left out).2.2 = nameP ps a ∧ (rd_T34 ps a).f2 ≠ [])
  | 0, left, out, hl => by
    obtain rfl : left = [] := List.eq_nil_of_length_eq_zero hl
    exact Or.inl ⟨rfl, [], by show out = out ++ []; rw [List.append_nil], List.Perm.refl _, trivial⟩
  | m + 1, left, out, hl => by
    have e : planF ps (m + 1) left out = (match left.findIdx? (free ps left) with
      | some at_ => planF ps m (left.eraseIdx at_) (out ++ [left.getD at_ 0])
      | none => ([], 71, nameP ps (left.getD 0 0))) := rfl
    cases hf : left.findIdx? (free ps left) with
    | some x =>
      rw [hf] at e
      simp only [] at e
      obtain ⟨hx, hfr, _⟩ := List.findIdx?_eq_some_iff_getElem.1 hf
      have hg : left.getD x 0 = left[x] := by rw [List.getD_eq_getElem?_getD, List.getElem?_eq_getElem hx]; rfl
      rw [hg] at e
      have hfr2 : ∀ q ∈ left, nameP ps q ∉ (rd_T34 ps left[x]).f2 := by
        intro q hq hm
        unfold free waitsB at hfr
        have : (left.any fun i => inB (rd_T34 ps left[x]).f2 (nameP ps i)) = true := List.any_eq_true.2 ⟨q, hq, (inB_iff _ _).2 hm⟩
        rw [this] at hfr
        cases hfr
      have hpe : (left[x] :: left.eraseIdx x).Perm left := erase_perm left x hx
      rcases planF_spec ps m (left.eraseIdx x) (out ++ [left[x]]) (by rw [List.length_eraseIdx, if_pos hx]; omega) with ⟨h1, seq, h2, h3, h4⟩ | ⟨h1, h2, a, h3, h4⟩
      · refine Or.inl ⟨by rw [e]; exact h1, left[x] :: seq, by rw [e, h2, List.append_assoc]; rfl, (h3.cons _).trans hpe, ?_, h4⟩
        intro q hq
        exact hfr2 q (hpe.subset (((h3.cons _).subset) hq))
      · exact Or.inr ⟨by rw [e]; exact h1, by rw [e]; exact h2, a, List.mem_of_mem_eraseIdx h3, by rw [e]; exact h4⟩
    | none =>
      rw [hf] at e
      simp only [] at e
      have h0 : 0 < left.length := by omega
      have hg : left.getD 0 0 = left[0] := by rw [List.getD_eq_getElem?_getD, List.getElem?_eq_getElem h0]; rfl
      rw [hg] at e
      refine Or.inr ⟨by rw [e], by rw [e], left[0], List.getElem_mem h0, by rw [e], fun hn => ?_⟩
      have := List.findIdx?_eq_none_iff.1 hf left[0] (List.getElem_mem h0)
      unfold free waitsB at this
      rw [hn] at this
      have h2 : (left.any fun i => inB [] (nameP ps i)) = false := by rw [List.any_eq_false]; intro x _; exact Bool.false_ne_true
      rw [h2] at this
      cases this
/-- What the laws need of plan.Order's answer. -/
def OrderOk (th : List ByteArray) (ps : List S34) (r : List Int × Int × ByteArray) : Prop :=
  (r.2.1 = 0 ∧ r.1.Perm (nums ps.length) ∧ OkSeq ps r.1 ∧ (ps.map fun p => p.f0).Nodup ∧ ∀ p ∈ ps, ∀ m ∈ p.f2, m ∈ th ∨ m ∈ ps.map fun p => p.f0) ∨
  (r.2.1 = 71 ∧ r.1 = [] ∧ ∃ a ∈ nums ps.length, r.2.2 = nameP ps a ∧ (rd_T34 ps a).f2 ≠ []) ∨ (r.2.1 ≠ 0 ∧ r.2.1 ≠ 71 ∧ r.1 = [])
theorem order_tot (th : List ByteArray) (ps : List S34) (hth : th.length ≤ 1000) (hps : ps.length ≤ 12) (hs : ∀ p ∈ ps, SmallP p) : ∃ r, Ev (fun k => plan_Order.f k th ps) r ∧ OrderOk th ps r := by
  obtain ⟨⟨e, n⟩, hr, hne, hok⟩ := first_tot th ps hth (by omega) hs
  by_cases he : e = 0
  · subst he
    obtain ⟨hnd, hneeds⟩ := hok rfl
    have hc : (decide (ps.length ≤ 12) && ps.all fun x => decide (x.f2.length ≤ 1000000)) = true := by
      simp only [Bool.and_eq_true, decide_eq_true_eq, List.all_eq_true]
      exact ⟨hps, fun x hx => by have := (hs x hx).2.1; omega⟩
    refine ⟨planR ps (sortL ps), Ev.congr (fun k => by unfold plan_Order.f; rfl) (Ev.bind hr (Ev.congr (f := fun _ => some (planR ps (sortL ps))) (fun k => by rw [if_pos rfl, if_pos hc]) (Ev.now _))), ?_⟩
    have hp := sortL_perm ps
    rcases planF_spec ps (sortL ps).length (sortL ps) [] rfl with ⟨h1, seq, h2, h3, h4⟩ | ⟨h1, h2, a, h3, h4⟩
    · exact Or.inl ⟨h1, by show (planF ps (sortL ps).length (sortL ps) []).1.Perm _; rw [h2]; exact h3.trans hp, by show OkSeq ps (planF ps (sortL ps).length (sortL ps) []).1; rw [h2]; exact h4, hnd, hneeds⟩
    · exact Or.inr (Or.inl ⟨h1, h2, a, hp.subset h3, h4⟩)
  · exact ⟨([], e, n), Ev.congr (fun k => by unfold plan_Order.f; rfl) (Ev.bind hr (Ev.congr (f := fun _ => some ([], e, n)) (fun k => by rw [if_neg he]) (Ev.now _))), Or.inr (Or.inr ⟨he, hne, rfl⟩)⟩
end Go.Proofs.YtgfdcakeplamnaaDoor.PAll
