/- PlanMore's plain statement: one more package that nobody needs and that needs none leaves the plan of the others as it is. -/
import Derived.Test.YtgfdcakeplamnaaDoorPAllx5
import Derived.Test.YtgfdcakeplamnaaDoorPAllx4
import Derived.Test.YtgfdcakeplamnaaDoorPAllx6
import Derived.Test.YtgfdcakeplamnaaDoorPAllx8
import Derived.Test.YtgfdcakeplamnaaDoorPq
import Derived.Test.YtgfdcakeplamnaaDoorHm
namespace Go.Proofs.YtgfdcakeplamnaaDoor.Pure
open Go.RowKit Go.Proofs.YtgfdcakeplamnaaDoor.PAll Go.Proofs.YtgfdcakeplamnaaDoorW.PrintWords Go.Proofs.YtgfdcakeplamnaaDoorW.PrintLast Go.Proofs.YtgfdcakeplamnaaDoor.PAll.Hd
open Go.Proofs.YtgfdcakeplamnaaDoor.Hd (newP noB)
set_option linter.unusedVariables false
theorem awake28 : Ev (fun k => monticulelaw28_awake.f k) true := Ev.of (fun k => monticulelaw28_awake.mono k) (k := 70) (by kernel_rfl)
theorem in_all (name : ByteArray) : ∀ (ps : List S34), (∀ p ∈ ps, SmallP p) → ∃ K, ∀ k, K ≤ k → ∀ p ∈ ps, monticuleref06_In.f k p.f2 name = some (inB p.f2 name)
  | [], _ => ⟨0, fun k _ p hp => by cases hp⟩
  | p :: ps, h => by
    obtain ⟨K1, h1⟩ := ev_out (refIn_val p.f2 name (by have := (h p (List.mem_cons_self ..)).2.1; omega))
    obtain ⟨K2, h2⟩ := in_all name ps (fun q hq => h q (List.mem_cons_of_mem _ hq))
    refine ⟨K1 + K2, fun k hk q hq => ?_⟩
    rcases List.mem_cons.1 hq with rfl | hq
    · exact h1 k (by omega)
    · exact h2 k (by omega) q hq
noncomputable def orderV (th : List ByteArray) (ps : List S34) : List Int × Int × ByteArray :=
  if (firstV th ps).1 = 0 then planR ps (sortL ps) else ([], (firstV th ps).1, (firstV th ps).2)
theorem order_is (th : List ByteArray) (ps : List S34) (hth : th.length ≤ 1000) (hps : ps.length ≤ 12) (hs : ∀ p ∈ ps, SmallP p) : Ev (fun k => plan_Order.f k th ps) (orderV th ps) := by
  have hr := first_is th ps hth (by omega) hs
  unfold orderV
  refine Ev.congr (fun k => by unfold plan_Order.f; rfl) (Ev.bind hr ?_)
  by_cases he : (firstV th ps).1 = 0
  · have hc : (decide (ps.length ≤ 12) && ps.all fun x => decide (x.f2.length ≤ 1000000)) = true := by
      simp only [Bool.and_eq_true, decide_eq_true_eq, List.all_eq_true]
      exact ⟨hps, fun x hx => by have := (hs x hx).2.1; omega⟩
    rw [if_pos he, if_pos he]
    exact Ev.congr (f := fun _ => some (planR ps (sortL ps))) (fun k => by rw [if_pos hc]) (Ev.now _)
  · rw [if_neg he, if_neg he]
    exact Ev.now _
theorem order_ok (th : List ByteArray) (ps : List S34) (hth : th.length ≤ 1000) (hps : ps.length ≤ 12) (hs : ∀ p ∈ ps, SmallP p) : (orderV th ps).1.length ≤ 12 ∧ ((orderV th ps).2.1 = 0 → (orderV th ps).1.length = ps.length ∧ (ps.map fun p => p.f0).Nodup) := by
  obtain ⟨t, ht, hok⟩ := order_tot th ps hth hps hs
  have := ev_one (order_is th ps hth hps hs) ht
  rw [this]
  rcases hok with ⟨_, hp, _, hnd, _⟩ | ⟨h71, e, _⟩ | ⟨h0, _, e⟩
  · have := hp.length_eq
    rw [nums_len] at this
    exact ⟨by omega, fun _ => ⟨this, hnd⟩⟩
  · rw [e]
    exact ⟨Nat.zero_le _, fun h => absurd (h.symm.trans h71) (by decide)⟩
  · rw [e]
    exact ⟨Nat.zero_le _, fun h => absurd h h0⟩
theorem order_more (th : List ByteArray) (ps : List S34) (name : ByteArray) (hth : th.length ≤ 1000) (hps : ps.length ≤ 7) (hs : ∀ p ∈ ps, SmallP p) (hs2 : ∀ p ∈ ps ++ [newP name], SmallP p) (hno : ∀ p ∈ ps, p.f0 ≠ name ∧ inB p.f2 name = false) :
    (Nm.clsN (BL name) = false → ((orderV th ps).2.1 ≠ 0 ∧ (orderV th (ps ++ [newP name])).2.1 ≠ 0) ∨ ((orderV th (ps ++ [newP name])).2.1 = 2 ∧ (orderV th (ps ++ [newP name])).2.2 = name)) ∧
    (Nm.clsN (BL name) = true → (orderV th (ps ++ [newP name])).2.1 = (orderV th ps).2.1 ∧ ((orderV th ps).2.1 = 0 → noB (ps.length : Int) (orderV th (ps ++ [newP name])).1 = (orderV th ps).1 ∧ (orderV th (ps ++ [newP name])).1.length = (orderV th ps).1.length + 1)) := by
  have hn : ∀ p ∈ ps, (newP name).f0 ∉ p.f2 := fun p hp hm => by
    have := (inB_iff p.f2 name).2 hm
    rw [(hno p hp).2] at this
    cases this
  have hlen : (ps ++ [newP name]).length = ps.length + 1 := by rw [List.length_append, List.length_singleton]
  constructor
  · intro hc
    have hr : ¬ rightP (newP name) := fun h => by
      have := (right_bare name).1 h
      rw [hc] at this
      cases this
    rcases firstV_bad th ps (newP name) hr with h | ⟨h1, h2⟩
    · refine Or.inr ?_
      unfold orderV
      rw [if_neg (by rw [h]; exact (by decide : ¬ ((2 : Int) = 0))), h]
      exact ⟨rfl, rfl⟩
    · refine Or.inl ?_
      unfold orderV
      rw [if_neg h1, if_neg h2]
      exact ⟨h1, h2⟩
  · intro hc
    have hr : rightP (newP name) := (right_bare name).2 hc
    have hf := firstV_more th ps (newP name) rfl hr (fun p hp => (hno p hp).1) hn
    by_cases he : (firstV th ps).1 = 0
    · have hnd : (ps.map fun p => p.f0).Nodup := by
        obtain ⟨t, ht, hiff⟩ := first_iff th ps hth (by omega) hs
        have := ev_one (first_is th ps hth (by omega) hs) ht
        rw [this] at he
        exact (hiff.2.1 he).2.1
      obtain ⟨m1, m2⟩ := planR_more ps (newP name) rfl hn hnd
      have e1 : orderV th ps = planR ps (sortL ps) := by unfold orderV; rw [if_pos he]
      have e2 : orderV th (ps ++ [newP name]) = planR (ps ++ [newP name]) (sortL (ps ++ [newP name])) := by unfold orderV; rw [hf, if_pos he]
      refine ⟨by rw [e1, e2]; exact m1, fun h0 => ⟨by rw [e1, e2]; exact m2, ?_⟩⟩
      have l1 := ((order_ok th ps hth (by omega) hs).2 h0).1
      have l2 := ((order_ok th (ps ++ [newP name]) hth (by omega) hs2).2 (by rw [e2, m1, ← e1]; exact h0)).1
      omega
    · have e1 : orderV th ps = ([], (firstV th ps).1, (firstV th ps).2) := by unfold orderV; rw [if_neg he]
      have e2 : orderV th (ps ++ [newP name]) = ([], (firstV th ps).1, (firstV th ps).2) := by unfold orderV; rw [hf, if_neg he]
      rw [e1, e2]
      exact ⟨rfl, fun h0 => absurd h0 he⟩
theorem PlanMore (th : List ByteArray) (ps : List S34) (name : ByteArray) : ∃ (k : Nat) (b1 b2 : Bool) (r r2 : List Int × Int × ByteArray) (nb : S34 → Bool) (c : Bool), monticulelaw28_awake.f k = some true ∧ monticulelaw28_few.f k th = some b1 ∧ monticuleref28_Few.f k ps 7 = some b2 ∧
    (b1 = true → b2 = true → name.size ≤ 60 → ps.length ≤ 7 ∧ (∀ p ∈ ps, monticuleref06_In.f k p.f2 name = some (nb p)) ∧ ((∀ p ∈ ps, p.f0 ≠ name ∧ nb p = false) →
      plan_Order.f k th ps = some r ∧ plan_Order.f k th (ps ++ [newP name]) = some r2 ∧ monticuleref06_Class.f k name = some c ∧ r.1.length ≤ 1000 ∧ r2.1.length ≤ 1000 ∧
        (c = false → (r.2.1 ≠ 0 ∧ r2.2.1 ≠ 0) ∨ (r2.2.1 = 2 ∧ r2.2.2 = name)) ∧ (c = true → r2.2.1 = r.2.1 ∧ (r.2.1 = 0 → noB (ps.length : Int) r2.1 = r.1 ∧ r2.1.length = r.1.length + 1)))) := by
  obtain ⟨K0, h0⟩ := ev_out awake28
  obtain ⟨b1, hb1, hf1⟩ := few_tot th
  obtain ⟨b2, hb2, hf2⟩ := few28_tot ps 7 (by decide)
  obtain ⟨K1, h1⟩ := ev_out hb1
  obtain ⟨K2, h2⟩ := ev_out hb2
  by_cases hg : b1 = true ∧ b2 = true ∧ name.size ≤ 60
  · obtain ⟨hth, _⟩ := hf1 hg.1
    obtain ⟨hps, hs⟩ := hf2 hg.2.1
    have hs2 : ∀ p ∈ ps ++ [newP name], SmallP p := fun p hp => by
      rcases List.mem_append.1 hp with hp | hp
      · exact hs p hp
      · rw [List.mem_singleton.1 hp]
        exact ⟨Nat.le_trans hg.2.2 (by decide), Nat.zero_le _, fun x hx => (by cases hx), Nat.zero_le _, fun x hx => (by cases hx)⟩
    have hlen : (ps ++ [newP name]).length = ps.length + 1 := by rw [List.length_append, List.length_singleton]
    obtain ⟨K3, h3⟩ := ev_out (order_is th ps (by omega) (by omega) hs)
    obtain ⟨K4, h4⟩ := ev_out (order_is th (ps ++ [newP name]) (by omega) (by omega) hs2)
    obtain ⟨K5, h5⟩ := ev_out (refClass_val name (Nat.le_trans hg.2.2 (by decide)))
    obtain ⟨K6, h6⟩ := in_all name ps hs
    have l1 := (order_ok th ps (by omega) (by omega) hs).1
    have l2 := (order_ok th (ps ++ [newP name]) (by omega) (by omega) hs2).1
    refine ⟨K0 + K1 + K2 + K3 + K4 + K5 + K6, b1, b2, orderV th ps, orderV th (ps ++ [newP name]), fun p => inB p.f2 name, Nm.clsN (BL name), h0 _ (by omega), h1 _ (by omega), h2 _ (by omega), fun _ _ _ => ⟨hps, h6 _ (by omega), fun hno => ?_⟩⟩
    obtain ⟨m1, m2⟩ := order_more th ps name (by omega) hps hs hs2 hno
    exact ⟨h3 _ (by omega), h4 _ (by omega), h5 _ (by omega), by omega, by omega, m1, m2⟩
  · exact ⟨K0 + K1 + K2, b1, b2, ([], 0, ⟨#[]⟩), ([], 0, ⟨#[]⟩), fun _ => false, false, h0 _ (by omega), h1 _ (by omega), h2 _ (by omega), fun a b d => absurd ⟨a, b, d⟩ hg⟩
end Go.Proofs.YtgfdcakeplamnaaDoor.Pure
