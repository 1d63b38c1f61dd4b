/- The plan, told by packages: the order in which they come does not matter. -/
import Derived.Test.YtgfdcakeplamnaaDoorPAllx4
import Derived.Test.YtgfdcakeplamnaaDoorPi
import Derived.Test.YtgfdcakeplamnaaDoorPh
namespace Go.Proofs.YtgfdcakeplamnaaDoor.PAll
open Go.RowKit Go.Proofs.YtgfdcakeplamnaaDoorW.PrintWords Go.Proofs.YtgfdcakeplamnaaDoorW.PrintLast Hd
set_option linter.unusedVariables false
def freeP (left : List S34) (p : S34) : Bool := !(left.any fun q => inB p.f2 q.f0)
def planP : Nat → List S34 → List S34 → List S34 × Int × ByteArray
  | 0, _, out => (out, 0, ⟨#[]⟩)
  | f + 1, left, out => match left.findIdx? (freeP left) with
    | some at_ => planP f (left.eraseIdx at_) (out ++ [left.getD at_ z34])
    | none => ([], 71, (left.getD 0 z34).f0)
theorem free_map (ps : List S34) (left : List Int) : (freeP (left.map (rd_T34 ps))) ∘ (rd_T34 ps) = free ps left := by
  funext i
  show freeP (left.map (rd_T34 ps)) (rd_T34 ps i) = free ps left i
  unfold freeP free waitsB
  rw [List.any_map]
  rfl
theorem erase_map {α β : Type} (f : α → β) : ∀ (l : List α) (x : Nat), (l.map f).eraseIdx x = (l.eraseIdx x).map f
  | [], _ => rfl
  | a :: l, 0 => rfl
  | a :: l, x + 1 => by
    show f a :: (l.map f).eraseIdx x = f a :: (l.eraseIdx x).map f
    rw [erase_map f l x]
theorem planP_map (ps : List S34) : ∀ (m : Nat) (left out : List Int), left.length = m → planP m (left.map (rd_T34 ps)) (out.map (rd_T34 ps)) = ((planF ps m left out).1.map (rd_T34 ps), (planF ps m left out).2.1, (planF ps m left out).2.2)
  | 0, left, out, hl => rfl
  | m + 1, left, out, hl => by
    have e1 : planP (m + 1) (left.map (rd_T34 ps)) (out.map (rd_T34 ps)) = (match (left.map (rd_T34 ps)).findIdx? (freeP (left.map (rd_T34 ps))) with
      | some at_ => planP m ((left.map (rd_T34 ps)).eraseIdx at_) (out.map (rd_T34 ps) ++ [(left.map (rd_T34 ps)).getD at_ z34])
      | none => ([], 71, ((left.map (rd_T34 ps)).getD 0 z34).f0)) := rfl
    have e2 : planF ps (m + 1) left out = (match left.findIdx? (free ps left) with
      | some at_ => planF ps m (left.eraseIdx at_) (out ++ [left.getD at_ 0])
      | none => ([], 71, nameP ps (left.getD 0 0))) := rfl
    rw [e1, e2, List.findIdx?_map, free_map]
    cases hf : left.findIdx? (free ps left) with
    | some x =>
      obtain ⟨hx, _, _⟩ := List.findIdx?_eq_some_iff_getElem.1 hf
      have hg : (left.map (rd_T34 ps)).getD x z34 = rd_T34 ps (left.getD x 0) := by
        rw [List.getD_eq_getElem?_getD, List.getD_eq_getElem?_getD, List.getElem?_map, List.getElem?_eq_getElem hx]
        rfl
      simp only []
      rw [hg, erase_map, show out.map (rd_T34 ps) ++ [rd_T34 ps (left.getD x 0)] = (out ++ [left.getD x 0]).map (rd_T34 ps) by rw [List.map_append]; rfl]
      exact planP_map ps m (left.eraseIdx x) (out ++ [left.getD x 0]) (by rw [List.length_eraseIdx, if_pos hx]; omega)
    | none =>
      have h0 : 0 < left.length := by omega
      have hg : (left.map (rd_T34 ps)).getD 0 z34 = rd_T34 ps (left.getD 0 0) := by
        rw [List.getD_eq_getElem?_getD, List.getD_eq_getElem?_getD, List.getElem?_map, List.getElem?_eq_getElem h0]
        rfl
      simp only []
      rw [hg]
      rfl
/-- The packages by their names. -/
def sortP (ps : List S34) : List S34 := (sortL ps).map (rd_T34 ps)
theorem nums_map (ps : List S34) : (nums ps.length).map (rd_T34 ps) = ps := by
  unfold nums
  rw [List.map_map]
  apply List.ext_getElem
  · simp
  · intro i h1 h2
    simp only [List.getElem_map, List.getElem_range, Function.comp]
    exact rd34 ps i h2
theorem sortP_perm (ps : List S34) : (sortP ps).Perm ps := by
  have := (sortL_perm ps).map (rd_T34 ps)
  rw [nums_map] at this
  exact this
theorem sortP_sorted (ps : List S34) : (sortP ps).Pairwise (fun a b => Op.bytesLess b.f0.toList a.f0.toList = false) := by
  unfold sortP
  rw [List.pairwise_map]
  exact sortL_sorted ps
theorem toList_inj {a b : ByteArray} (h : a.toList = b.toList) : a = b := by
  rw [toList_BL, toList_BL] at h
  exact BL_inj h
theorem sorted_one {a b : List S34} (hp : a.Perm b) (ha : a.Pairwise (fun x y => Op.bytesLess y.f0.toList x.f0.toList = false)) (hb : b.Pairwise (fun x y => Op.bytesLess y.f0.toList x.f0.toList = false)) (hn : (a.map fun p => p.f0).Nodup) : a = b := by
  refine List.Perm.eq_of_pairwise (le := fun x y => Op.bytesLess y.f0.toList x.f0.toList = false) (fun x y hx hy h1 h2 => ?_) ha hb hp
  have e : x.f0 = y.f0 := toList_inj (less_eq _ _ h2 h1)
  have hy' := hp.symm.subset hy
  obtain ⟨i, hi, rfl⟩ := List.getElem_of_mem hx
  obtain ⟨j, hj, rfl⟩ := List.getElem_of_mem hy'
  have hij : i = j := by
    have h3 : (a.map fun p => p.f0)[i]'(by simpa using hi) = (a.map fun p => p.f0)[j]'(by simpa using hj) := by simpa using e
    exact (List.getElem_inj hn).1 h3
  subst hij
  rfl
theorem sort_turned {ps qs : List S34} (h : qs.Perm ps) (hn : (ps.map fun p => p.f0).Nodup) : sortP qs = sortP ps :=
  sorted_one ((sortP_perm qs).trans (h.trans (sortP_perm ps).symm)) (sortP_sorted qs) (sortP_sorted ps) ((((sortP_perm qs).trans h).map _).nodup_iff.2 hn)
/-- Packages that plan.first lets by. -/
def Fine (th : List ByteArray) (ps : List S34) : Prop := (∀ p ∈ ps, rightP p) ∧ (ps.map fun p => p.f0).Nodup ∧ ∀ p ∈ ps, ∀ m ∈ p.f2, m ∈ th ∨ m ∈ ps.map fun p => p.f0
theorem fine_turned {th : List ByteArray} {ps qs : List S34} (h : qs.Perm ps) (hf : Fine th ps) : Fine th qs :=
  ⟨fun p hp => hf.1 p (h.subset hp), (h.map _).nodup_iff.2 hf.2.1, fun p hp m hm => (hf.2.2 p (h.subset hp) m hm).imp id (fun hh => (h.symm.map _).subset hh)⟩
theorem order_cases (th : List ByteArray) (ps : List S34) (hth : th.length ≤ 1000) (hps : ps.length ≤ 12) (hs : ∀ p ∈ ps, SmallP p) :
    ∃ r, Ev (fun k => plan_Order.f k th ps) r ∧ ((Fine th ps ∧ r = planR ps (sortL ps)) ∨ (¬ Fine th ps ∧ r.2.1 ≠ 0 ∧ r.2.1 ≠ 71 ∧ r.1 = [])) := by
  obtain ⟨⟨e, n⟩, hr, hne, hiff⟩ := first_iff th ps hth (by omega) hs
  by_cases he : e = 0
  · subst he
    have hc : (decide (ps.length ≤ 12) && ps.all fun x => decide (x.f2.length ≤ 1000000)) = true := by
      simp only [Bool.and_eq_true, decide_eq_true_eq, List.all_eq_true]
      exact ⟨hps, fun x hx => by have := (hs x hx).2.1; omega⟩
    exact ⟨planR ps (sortL ps), Ev.congr (fun k => by unfold plan_Order.f; rfl) (Ev.bind hr (Ev.congr (f := fun _ => some (planR ps (sortL ps))) (fun k => by rw [if_pos rfl, if_pos hc]) (Ev.now _))), Or.inl ⟨hiff.1 rfl, rfl⟩⟩
  · exact ⟨([], e, n), Ev.congr (fun k => by unfold plan_Order.f; rfl) (Ev.bind hr (Ev.congr (f := fun _ => some ([], e, n)) (fun k => by rw [if_neg he]) (Ev.now _))), Or.inr ⟨fun h => he (hiff.2 h), he, hne, rfl⟩⟩
theorem order_turned (th : List ByteArray) (ps qs : List S34) (h : qs.Perm ps) (hth : th.length ≤ 1000) (hps : ps.length ≤ 12) (hs : ∀ p ∈ ps, SmallP p) :
    ∃ r r', Ev (fun k => plan_Order.f k th ps) r ∧ Ev (fun k => plan_Order.f k th qs) r' ∧ (r.2.1 = 0 ↔ r'.2.1 = 0) ∧ r.1.map (rd_T34 ps) = r'.1.map (rd_T34 qs) ∧ (∀ x ∈ r.1, 0 ≤ x ∧ x < (ps.length : Int)) ∧ (∀ x ∈ r'.1, 0 ≤ x ∧ x < (qs.length : Int)) := by
  obtain ⟨r, hr, hc⟩ := order_cases th ps hth hps hs
  obtain ⟨r', hr', hc'⟩ := order_cases th qs hth (by rw [h.length_eq]; exact hps) (fun p hp => hs p (h.subset hp))
  have hin : ∀ (ts : List S34), ts.length ≤ 12 → (∀ p ∈ ts, SmallP p) → ∀ t, Ev (fun k => plan_Order.f k th ts) t → ∀ x ∈ t.1, 0 ≤ x ∧ x < (ts.length : Int) := by
    intro ts hts hss t ht x hx
    obtain ⟨t', ht', hok⟩ := order_tot th ts hth hts hss
    have := ev_one ht ht'
    subst this
    rcases hok with ⟨_, hp, _⟩ | ⟨_, h1, _⟩ | ⟨_, _, h1⟩
    · exact mem_nums.1 (hp.subset hx)
    · rw [h1] at hx; cases hx
    · rw [h1] at hx; cases hx
  refine ⟨r, r', hr, hr', ?_, ?_, hin ps hps hs r hr, hin qs (by rw [h.length_eq]; exact hps) (fun p hp => hs p (h.subset hp)) r' hr'⟩
  · rcases hc with ⟨hf, rfl⟩ | ⟨hf, h0, _, _⟩ <;> rcases hc' with ⟨hf', rfl⟩ | ⟨hf', h0', _, _⟩
    · have e1 := planP_map ps (sortL ps).length (sortL ps) [] rfl
      have e2 := planP_map qs (sortL qs).length (sortL qs) [] rfl
      have e3 : (sortL qs).map (rd_T34 qs) = (sortL ps).map (rd_T34 ps) := sort_turned h hf.2.1
      have e4 : (sortL qs).length = (sortL ps).length := by have := congrArg List.length e3; simpa using this
      rw [e3, e4, List.map_nil] at e2
      rw [List.map_nil, e2] at e1
      have := congrArg (fun z : List S34 × Int × ByteArray => z.2.1) e1
      simp only [] at this
      unfold planR
      rw [← this, ← e4]
    · exact absurd (fine_turned h hf) hf'
    · exact absurd (fine_turned h.symm hf') hf
    · exact ⟨fun hh => absurd hh h0, fun hh => absurd hh h0'⟩
  · rcases hc with ⟨hf, rfl⟩ | ⟨hf, _, _, h1⟩ <;> rcases hc' with ⟨hf', rfl⟩ | ⟨hf', _, _, h1'⟩
    · have e1 := planP_map ps (sortL ps).length (sortL ps) [] rfl
      have e2 := planP_map qs (sortL qs).length (sortL qs) [] rfl
      have e3 : (sortL qs).map (rd_T34 qs) = (sortL ps).map (rd_T34 ps) := sort_turned h hf.2.1
      have e4 : (sortL qs).length = (sortL ps).length := by have := congrArg List.length e3; simpa using this
      rw [e3, e4, List.map_nil] at e2
      rw [List.map_nil, e2] at e1
      have := congrArg (fun z : List S34 × Int × ByteArray => z.1) e1
      simp only [] at this
      unfold planR
      rw [← this, ← e4]
    · exact absurd (fine_turned h hf) hf'
    · exact absurd (fine_turned h.symm hf') hf
    · rw [h1, h1']; rfl
end Go.Proofs.YtgfdcakeplamnaaDoor.PAll
