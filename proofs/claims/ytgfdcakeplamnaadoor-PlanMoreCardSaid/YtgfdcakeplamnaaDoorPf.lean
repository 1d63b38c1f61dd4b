/- What plan.first comes to, and which packages are few: as much as the laws need. -/
import Derived.Test.YtgfdcakeplamnaaDoorPAllx3
import Derived.Test.YtgfdcakeplamnaaDoorPAllx6
import Derived.Test.YtgfdcakeplamnaaDoorPAllx5
import Derived.Test.YtgfdcakeplamnaaDoorPw
namespace Go.Proofs.YtgfdcakeplamnaaDoor.PAll
open Go.RowKit Go.Proofs.YtgfdcakeplamnaaDoorW.PrintWords Go.Proofs.YtgfdcakeplamnaaDoorW.PrintLast Hd
set_option linter.unusedVariables false
theorem all_tot {α : Type} (l : List α) (g : Nat → Int → Option Bool) (P : α → Prop) (h0 : Ev (fun k => g k (l.length : Int)) true)
    (hs : ∀ i (hi : i < l.length), (P l[i] ∧ ∀ r, Ev (fun k => g k ((i + 1 : Nat) : Int)) r → Ev (fun k => g k (i : Int)) r) ∨ Ev (fun k => g k (i : Int)) false) :
    ∃ b, Ev (fun k => g k 0) b ∧ (b = true → ∀ x ∈ l, P x) := by
  have main : ∀ (d i : Nat), l.length - i = d → i ≤ l.length → ∃ b, Ev (fun k => g k (i : Int)) b ∧ (b = true → ∀ x ∈ l.drop i, P x) := by
    intro d
    induction d with
    | zero =>
      intro i hd hi
      obtain rfl : i = l.length := by omega
      exact ⟨true, h0, fun _ x hx => by rw [List.drop_length] at hx; cases hx⟩
    | succ d ih =>
      intro i hd hi
      have hlt : i < l.length := by omega
      rcases hs i hlt with ⟨hp, hn⟩ | hf
      · obtain ⟨b, hb, hP⟩ := ih (i + 1) (by omega) (by omega)
        refine ⟨b, hn b hb, fun e x hx => ?_⟩
        rw [List.drop_eq_getElem_cons hlt] at hx
        rcases List.mem_cons.1 hx with rfl | hx
        · exact hp
        · exact hP e x hx
      · exact ⟨false, hf, fun e => by cases e⟩
  obtain ⟨b, hb, hP⟩ := main l.length 0 (by omega) (Nat.zero_le _)
  exact ⟨b, hb, fun e x hx => hP e x (by rw [List.drop_zero]; exact hx)⟩
theorem rd34 (l : List S34) (i : Nat) (hi : i < l.length) : rd_T34 l (i : Int) = l[i] := by
  unfold rd_T34
  rw [List.getD_eq_getElem?_getD, Int.toNat_natCast, List.getElem?_eq_getElem hi]
  rfl
theorem rd68 (l : List S68) (i : Nat) (hi : i < l.length) : rd_T68 l (i : Int) = l[i] := by
  unfold rd_T68
  rw [List.getD_eq_getElem?_getD, Int.toNat_natCast, List.getElem?_eq_getElem hi]
  rfl
theorem w64 {i n : Nat} (hi : i < n) (hn : n ≤ 1000000) : wrap64 ((i : Int) + 1) = ((i + 1 : Nat) : Int) := by rw [IntWalk.wrap64_in _ (by omega)]; omega
theorem few_tot (l : List ByteArray) : ∃ b, Ev (fun k => monticulelaw28_few.f k l) b ∧ (b = true → l.length ≤ 20 ∧ ∀ x ∈ l, x.size ≤ 60) := by
  by_cases hl : l.length ≤ 20
  · obtain ⟨b, hb, hP⟩ := all_tot l (fun k i => monticulelaw28_few.l0 k l i) (fun x => x.size ≤ 60)
      (Ev.step (f := fun _ => some true) (fun k => by rw [monticulelaw28_few.l0, if_neg (by omega)]) (Ev.now _))
      (fun i hi => by
        by_cases h : (l[i]).size ≤ 60
        · exact Or.inl ⟨h, fun r hr => Ev.step (fun k => by rw [monticulelaw28_few.l0, if_pos (by omega), if_pos (by omega), rdOf_get l i hi, if_neg (by omega), w64 hi (by omega)]) hr⟩
        · exact Or.inr (Ev.step (f := fun _ => some false) (fun k => by rw [monticulelaw28_few.l0, if_pos (by omega), if_pos (by omega), rdOf_get l i hi, if_pos (by omega)]) (Ev.now _)))
    exact ⟨b, Ev.congr (fun k => by unfold monticulelaw28_few.f; rw [if_neg (by omega)]) hb, fun e => ⟨hl, hP e⟩⟩
  · exact ⟨false, Ev.congr (f := fun _ => some false) (fun k => by unfold monticulelaw28_few.f; rw [if_pos (by omega)]) (Ev.now _), fun e => by cases e⟩
theorem few07_tot (l : List S68) : ∃ b, Ev (fun k => monticuleref07_Few.f k l 12) b ∧ (b = true → l.length ≤ 12 ∧ ∀ x ∈ l, smallD x.f0 x.f1 x.f2 x.f3 x.f4 x.f5 = true) := by
  by_cases hl : l.length ≤ 12
  · obtain ⟨b, hb, hP⟩ := all_tot l (fun k i => monticuleref07_Few.l0 k l i) (fun x => smallD x.f0 x.f1 x.f2 x.f3 x.f4 x.f5 = true)
      (Ev.step (f := fun _ => some true) (fun k => by rw [monticuleref07_Few.l0, if_neg (by omega)]) (Ev.now _))
      (fun i hi => by
        have hv := Small_val (l[i]).f0 (l[i]).f1 (l[i]).f2 (l[i]).f3 (l[i]).f4 (l[i]).f5
        have hstep : ∀ k, monticuleref07_Few.l0 (k + 1) l (i : Int) = (monticuleref07_Small.f k (l[i]).f0 (l[i]).f1 (l[i]).f2 (l[i]).f3 (l[i]).f4 (l[i]).f5).bind fun t182 => (if t182 = true then (monticuleref07_Few.l0 k l ((i + 1 : Nat) : Int)) else (some false)) := fun k => by
          rw [monticuleref07_Few.l0, if_pos (by omega), if_pos (by omega), rd68 l i hi, w64 hi (by omega)]
        cases h : smallD (l[i]).f0 (l[i]).f1 (l[i]).f2 (l[i]).f3 (l[i]).f4 (l[i]).f5 with
        | true =>
          rw [h] at hv
          exact Or.inl ⟨rfl, fun r hr => Ev.step hstep (Ev.bind hv (Ev.congr (fun k => if_pos rfl) hr))⟩
        | false =>
          rw [h] at hv
          exact Or.inr (Ev.step hstep (Ev.bind hv (Ev.congr (f := fun _ => some false) (fun k => if_neg (by decide)) (Ev.now _)))))
    exact ⟨b, Ev.congr (fun k => by unfold monticuleref07_Few.f; rw [if_neg (by omega)]) hb, fun e => ⟨hl, hP e⟩⟩
  · exact ⟨false, Ev.congr (f := fun _ => some false) (fun k => by unfold monticuleref07_Few.f; rw [if_pos (by omega)]) (Ev.now _), fun e => by cases e⟩
/-- A small package. -/
def SmallP (p : S34) : Prop := p.f0.size ≤ 100 ∧ p.f2.length ≤ 30 ∧ (∀ x ∈ p.f2, x.size ≤ 100) ∧ p.f3.length ≤ 12 ∧ ∀ x ∈ p.f3, smallD x.f0 x.f1 x.f2 x.f3 x.f4 x.f5 = true
theorem small11_tot (p : S34) : ∃ b, Ev (fun k => monticuleref11_Small.f k p.f0 p.f1 p.f2 p.f3) b ∧ (b = true → SmallP p) := by
  have hj : Ev (fun k => monticuleref11_Small.j0 k true p.f0 p.f1 p.f2 p.f3) false := Ev.step (f := fun _ => some false) (fun k => by rw [monticuleref11_Small.j0, if_pos rfl]) (Ev.now _)
  by_cases h1 : p.f0.size ≤ 100
  · by_cases h2 : p.f2.length ≤ 30
    · obtain ⟨b7, hb7, hP7⟩ := few07_tot p.f3
      cases b7 with
      | true =>
        obtain ⟨b, hb, hP⟩ := all_tot p.f2 (fun k i => monticuleref11_Small.l0 k i p.f0 p.f1 p.f2 p.f3) (fun x => x.size ≤ 100)
          (Ev.step (f := fun _ => some true) (fun k => by rw [monticuleref11_Small.l0, if_neg (by omega)]) (Ev.now _))
          (fun i hi => by
            by_cases h : (p.f2[i]).size ≤ 100
            · exact Or.inl ⟨h, fun r hr => Ev.step (fun k => by rw [monticuleref11_Small.l0, if_pos (by omega), if_pos (by omega), rdOf_get p.f2 i hi, if_neg (by omega), w64 hi (by omega)]) hr⟩
            · exact Or.inr (Ev.step (f := fun _ => some false) (fun k => by rw [monticuleref11_Small.l0, if_pos (by omega), if_pos (by omega), rdOf_get p.f2 i hi, if_pos (by omega)]) (Ev.now _)))
        refine ⟨b, Ev.congr (fun k => by unfold monticuleref11_Small.f; rw [if_neg (by omega), if_neg (by omega)]) (Ev.bind hb7 (Ev.step (fun k => ?_) hb)), fun e => ⟨h1, h2, hP e, (hP7 rfl).1, (hP7 rfl).2⟩⟩
        rw [monticuleref11_Small.j0, if_neg (by decide)]
      | false => exact ⟨false, Ev.congr (fun k => by unfold monticuleref11_Small.f; rw [if_neg (by omega), if_neg (by omega)]) (Ev.bind hb7 hj), fun e => by cases e⟩
    · exact ⟨false, Ev.congr (fun k => by unfold monticuleref11_Small.f; rw [if_neg (by omega), if_pos (by omega)]) hj, fun e => by cases e⟩
  · exact ⟨false, Ev.congr (fun k => by unfold monticuleref11_Small.f; rw [if_pos (by omega)]) hj, fun e => by cases e⟩
theorem few28_tot (l : List S34) (m : Nat) (hm : m ≤ 100) : ∃ b, Ev (fun k => monticuleref28_Few.f k l (m : Int)) b ∧ (b = true → l.length ≤ m ∧ ∀ x ∈ l, SmallP x) := by
  by_cases hl : l.length ≤ m
  · obtain ⟨b, hb, hP⟩ := all_tot l (fun k i => monticuleref28_Few.l0 k l i) SmallP
      (Ev.step (f := fun _ => some true) (fun k => by rw [monticuleref28_Few.l0, if_neg (by omega)]) (Ev.now _))
      (fun i hi => by
        obtain ⟨b, hv, hb⟩ := small11_tot l[i]
        have hstep : ∀ k, monticuleref28_Few.l0 (k + 1) l (i : Int) = (monticuleref11_Small.f k (l[i]).f0 (l[i]).f1 (l[i]).f2 (l[i]).f3).bind fun t187 => (if t187 = true then (monticuleref28_Few.l0 k l ((i + 1 : Nat) : Int)) else (some false)) := fun k => by
          rw [monticuleref28_Few.l0, if_pos (by omega), if_pos (by omega), rd34 l i hi, w64 hi (by omega)]
        cases b with
        | true => exact Or.inl ⟨hb rfl, fun r hr => Ev.step hstep (Ev.bind hv (Ev.congr (fun k => if_pos rfl) hr))⟩
        | false => exact Or.inr (Ev.step hstep (Ev.bind hv (Ev.congr (f := fun _ => some false) (fun k => if_neg (by decide)) (Ev.now _)))))
    exact ⟨b, Ev.congr (fun k => by unfold monticuleref28_Few.f; rw [if_neg (by omega)]) hb, fun e => ⟨hl, hP e⟩⟩
  · exact ⟨false, Ev.congr (f := fun _ => some false) (fun k => by unfold monticuleref28_Few.f; rw [if_pos (by omega)]) (Ev.now _), fun e => by cases e⟩
end Go.Proofs.YtgfdcakeplamnaaDoor.PAll
