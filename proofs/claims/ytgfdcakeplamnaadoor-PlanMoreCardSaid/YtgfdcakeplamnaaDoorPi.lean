/- When plan.first finds nothing. -/
import Derived.Test.YtgfdcakeplamnaaDoorPAllx3
import Derived.Test.YtgfdcakeplamnaaDoorPg
namespace Go.Proofs.YtgfdcakeplamnaaDoor.PAll
open Go.RowKit Go.Proofs.YtgfdcakeplamnaaDoorW.PrintWords Go.Proofs.YtgfdcakeplamnaaDoorW.PrintLast Hd
set_option linter.unusedVariables false
theorem ev_one {α : Type} {g : Nat → Option α} {a b : α} (h : Ev g a) (k : Ev g b) : a = b := by
  obtain ⟨K, hK⟩ := h
  obtain ⟨K2, hK2⟩ := k
  have h1 := hK (K + K2) (by omega)
  have h2 := hK2 (K + K2) (by omega)
  rw [h1] at h2
  exact Option.some.inj h2
def rightP (p : S34) : Prop := ∃ k, pack_Right.f k p.f0 p.f1 p.f2 p.f3 = some true
theorem right_iff (p : S34) (hp : SmallP p) : ∃ b, Ev (fun k => pack_Right.f k p.f0 p.f1 p.f2 p.f3) b ∧ (b = true ↔ rightP p) := by
  obtain ⟨b, hb⟩ := right_tot p hp
  refine ⟨b, hb, fun e => ?_, fun ⟨k, hk⟩ => ?_⟩
  · subst e
    obtain ⟨K, h⟩ := hb
    exact ⟨K, h K (Nat.le_refl _)⟩
  · exact ev_one hb (Ev.of (fun k => pack_Right.mono _ _ _ _ k) hk)
/-- Just when plan.first's answer is 0. -/
def FirstIff (th : List ByteArray) (ps : List S34) (r : Int × ByteArray) : Prop :=
  r.1 ≠ 71 ∧ (r.1 = 0 ↔ (∀ p ∈ ps, rightP p) ∧ (ps.map fun p => p.f0).Nodup ∧ ∀ p ∈ ps, ∀ m ∈ p.f2, m ∈ th ∨ m ∈ ps.map fun p => p.f0)
theorem firstI_l2 (th : List ByteArray) (ps : List S34) (i : Nat) (hi : i < ps.length) (hth : th.length ≤ 1000) (hps : ps.length ≤ 100) (hs : ∀ p ∈ ps, SmallP p)
    (hnext : (∀ m ∈ (ps[i]).f2, m ∈ th ∨ m ∈ ps.map fun p => p.f0) → ∃ r, Ev (fun k => plan_first.l1 k th (ps.map fun p => p.f0) ps (ps.length : Int) ((i + 1 : Nat) : Int)) r ∧ FirstIff th ps r) :
    ∀ (d j : Nat), (ps[i]).f2.length - j = d → j ≤ (ps[i]).f2.length → (∀ m ∈ (ps[i]).f2.take j, m ∈ th ∨ m ∈ ps.map fun p => p.f0) →
      ∃ r, Ev (fun k => plan_first.l2 k th (ps.map fun p => p.f0) ps (ps.length : Int) (i : Int) (ps[i]).f2 ((ps[i]).f2.length : Int) (j : Int)) r ∧ FirstIff th ps r := by
  have hsp := (hs _ (List.getElem_mem hi)).2.1
  intro d
  induction d with
  | zero =>
    intro j hd hj hok
    obtain rfl : j = (ps[i]).f2.length := by omega
    rw [List.take_length] at hok
    obtain ⟨r, hr, hq⟩ := hnext hok
    exact ⟨r, Ev.step (fun k => by rw [plan_first.l2, if_neg (by omega), w64 hi (by omega)]) hr, hq⟩
  | succ d ih =>
    intro j hd hj hok
    have hlt : j < (ps[i]).f2.length := by omega
    have hstep : ∀ k, plan_first.l2 (k + 1) th (ps.map fun p => p.f0) ps (ps.length : Int) (i : Int) (ps[i]).f2 ((ps[i]).f2.length : Int) (j : Int) = (slices_Contains_string_string.f k th ((ps[i]).f2[j])).bind fun t163 => (if t163 = true then (plan_first.l2 k th (ps.map fun p => p.f0) ps (ps.length : Int) (i : Int) (ps[i]).f2 ((ps[i]).f2.length : Int) ((j + 1 : Nat) : Int)) else ((slices_Contains_string_string.f k (ps.map fun p => p.f0) ((ps[i]).f2[j])).bind fun t164 => (if t164 = true then (plan_first.l2 k th (ps.map fun p => p.f0) ps (ps.length : Int) (i : Int) (ps[i]).f2 ((ps[i]).f2.length : Int) ((j + 1 : Nat) : Int)) else (some (73, (ps[i]).f2[j]))))) := fun k => by
      rw [plan_first.l2, if_pos (by omega), if_pos (by omega), if_pos (by omega), rdOf_get (ps[i]).f2 j hlt, w64 hlt (by omega)]
    have h1 := Contains_val th ((ps[i]).f2[j]) (by omega)
    have h2 := Contains_val (ps.map fun p => p.f0) ((ps[i]).f2[j]) (by rw [List.length_map]; omega)
    have hn : (inB th ((ps[i]).f2[j]) = true ∨ inB (ps.map fun p => p.f0) ((ps[i]).f2[j]) = true) → ∃ r, Ev (fun k => plan_first.l2 k th (ps.map fun p => p.f0) ps (ps.length : Int) (i : Int) (ps[i]).f2 ((ps[i]).f2.length : Int) ((j + 1 : Nat) : Int)) r ∧ FirstIff th ps r := fun h => ih (j + 1) (by omega) (by omega) (fun m hm => by
      rw [List.take_succ_eq_append_getElem hlt] at hm
      rcases List.mem_append.1 hm with hm | hm
      · exact hok m hm
      · rw [List.mem_singleton] at hm
        subst hm
        rcases h with h | h
        · exact Or.inl ((inB_iff _ _).1 h)
        · exact Or.inr ((inB_iff _ _).1 h))
    cases c1 : inB th ((ps[i]).f2[j]) with
    | true =>
      rw [c1] at h1
      obtain ⟨r, hr, hq⟩ := hn (Or.inl c1)
      exact ⟨r, Ev.step hstep (Ev.bind h1 (Ev.congr (fun k => if_pos rfl) hr)), hq⟩
    | false =>
      rw [c1] at h1
      cases c2 : inB (ps.map fun p => p.f0) ((ps[i]).f2[j]) with
      | true =>
        rw [c2] at h2
        obtain ⟨r, hr, hq⟩ := hn (Or.inr c2)
        exact ⟨r, Ev.step hstep (Ev.bind h1 (Ev.congr (fun k => if_neg (by decide)) (Ev.bind h2 (Ev.congr (fun k => if_pos rfl) hr)))), hq⟩
      | false =>
        rw [c2] at h2
        exact ⟨(73, (ps[i]).f2[j]), Ev.step hstep (Ev.bind h1 (Ev.congr (fun k => if_neg (by decide)) (Ev.bind h2 (Ev.congr (f := fun _ => some (73, (ps[i]).f2[j])) (fun k => if_neg (by decide)) (Ev.now _))))), by show (73 : Int) ≠ 71; decide, fun h => absurd h (by show ¬ (73 : Int) = 0; decide), fun h => by
          rcases h.2.2 _ (List.getElem_mem hi) _ (List.getElem_mem hlt) with h3 | h3
          · have := (inB_iff _ _).2 h3
            rw [c1] at this
            cases this
          · have := (inB_iff _ _).2 h3
            rw [c2] at this
            cases this⟩
theorem firstI_l1 (th : List ByteArray) (ps : List S34) (hth : th.length ≤ 1000) (hps : ps.length ≤ 100) (hs : ∀ p ∈ ps, SmallP p) (hnd : (ps.map fun p => p.f0).Nodup) (hrt : ∀ p ∈ ps, rightP p) :
    ∀ (d i : Nat), ps.length - i = d → i ≤ ps.length → (∀ p ∈ ps.take i, ∀ m ∈ p.f2, m ∈ th ∨ m ∈ ps.map fun p => p.f0) →
      ∃ r, Ev (fun k => plan_first.l1 k th (ps.map fun p => p.f0) ps (ps.length : Int) (i : Int)) r ∧ FirstIff th ps r := by
  intro d
  induction d with
  | zero =>
    intro i hd hi hok
    obtain rfl : i = ps.length := by omega
    rw [List.take_length] at hok
    exact ⟨(0, ⟨#[]⟩), Ev.step (f := fun _ => some (0, (⟨#[]⟩ : ByteArray))) (fun k => by rw [plan_first.l1, if_neg (by omega)]) (Ev.now _), by show (0 : Int) ≠ 71; decide, fun _ => ⟨hrt, hnd, hok⟩, fun _ => rfl⟩
  | succ d ih =>
    intro i hd hi hok
    have hlt : i < ps.length := by omega
    obtain ⟨r, hr, hq⟩ := firstI_l2 th ps i hlt hth hps hs (fun h => ih (i + 1) (by omega) (by omega) (fun p hp => by
      rw [List.take_succ_eq_append_getElem hlt] at hp
      rcases List.mem_append.1 hp with hp | hp
      · exact hok p hp
      · rw [List.mem_singleton] at hp
        subst hp
        exact h)) _ 0 rfl (Nat.zero_le _) (fun m hm => by rw [List.take_zero] at hm; cases hm)
    exact ⟨r, Ev.step (fun k => by rw [plan_first.l1, if_pos (by omega), if_pos (by omega), if_pos (by omega), rd34 ps i hlt]; rfl) hr, hq⟩
theorem first_iff (th : List ByteArray) (ps : List S34) (hth : th.length ≤ 1000) (hps : ps.length ≤ 100) (hs : ∀ p ∈ ps, SmallP p) : ∃ r, Ev (fun k => plan_first.f k th ps) r ∧ FirstIff th ps r := by
  have main : ∀ (d i : Nat), ps.length - i = d → i ≤ ps.length → ((ps.take i).map fun p => p.f0).Nodup → (∀ p ∈ ps.take i, rightP p) → ∃ r, Ev (fun k => plan_first.l0 k th ps ((ps.take i).map fun p => p.f0) ps (ps.length : Int) (i : Int)) r ∧ FirstIff th ps r := by
    intro d
    induction d with
    | zero =>
      intro i hd hi hnd hrt
      obtain rfl : i = ps.length := by omega
      rw [List.take_length] at hnd hrt ⊢
      obtain ⟨r, hr, hq⟩ := firstI_l1 th ps hth hps hs hnd hrt _ 0 rfl (Nat.zero_le _) (fun p hp => by rw [List.take_zero] at hp; cases hp)
      exact ⟨r, Ev.step (fun k => by rw [plan_first.l0, if_neg (by omega)]; rfl) hr, hq⟩
    | succ d ih =>
      intro i hd hi hnd hrt
      have hlt : i < ps.length := by omega
      have hstep : ∀ k, plan_first.l0 (k + 1) th ps ((ps.take i).map fun p => p.f0) ps (ps.length : Int) (i : Int) = (pack_Right.f k (ps[i]).f0 (ps[i]).f1 (ps[i]).f2 (ps[i]).f3).bind fun t155 => (if t155 = true then ((slices_Contains_string_string.f k ((ps.take i).map fun p => p.f0) (ps[i]).f0).bind fun t156 => (if t156 = true then (some (45, (ps[i]).f0)) else (if ((ps.take i).map fun p => p.f0).length < 8796093022208 then (plan_first.l0 k th ps (((ps.take i).map fun p => p.f0) ++ [(ps[i]).f0]) ps (ps.length : Int) ((i + 1 : Nat) : Int)) else (none)))) else (some (2, (ps[i]).f0))) := fun k => by
        rw [plan_first.l0, if_pos (by omega), if_pos (by omega), if_pos (by omega), rd34 ps i hlt, w64 hlt (by omega)]
      have hln : ((ps.take i).map fun p => p.f0).length ≤ 100 := by rw [List.length_map, List.length_take]; omega
      obtain ⟨b, hb, hbi⟩ := right_iff ps[i] (hs _ (List.getElem_mem hlt))
      have h1 := Contains_val ((ps.take i).map fun p => p.f0) (ps[i]).f0 (by omega)
      have e : ((ps.take (i + 1)).map fun p => p.f0) = ((ps.take i).map fun p => p.f0) ++ [(ps[i]).f0] := by rw [List.take_succ_eq_append_getElem hlt, List.map_append]; rfl
      cases b with
      | false => exact ⟨(2, (ps[i]).f0), Ev.step hstep (Ev.bind hb (Ev.congr (f := fun _ => some (2, (ps[i]).f0)) (fun k => if_neg (by decide)) (Ev.now _))), by show (2 : Int) ≠ 71; decide, fun h => absurd h (by show ¬ (2 : Int) = 0; decide), fun h => absurd (hbi.2 (h.1 _ (List.getElem_mem hlt))) Bool.false_ne_true⟩
      | true =>
        cases c1 : inB ((ps.take i).map fun p => p.f0) (ps[i]).f0 with
        | true =>
          rw [c1] at h1
          exact ⟨(45, (ps[i]).f0), Ev.step hstep (Ev.bind hb (Ev.congr (fun k => if_pos rfl) (Ev.bind h1 (Ev.congr (f := fun _ => some (45, (ps[i]).f0)) (fun k => if_pos rfl) (Ev.now _))))), by show (45 : Int) ≠ 71; decide, fun h => absurd h (by show ¬ (45 : Int) = 0; decide), fun h => by
            have h2 := h.2.1
            have e2 : (ps.map fun p => p.f0) = ((ps.take (i + 1)).map fun p => p.f0) ++ ((ps.drop (i + 1)).map fun p => p.f0) := by rw [← List.map_append, List.take_append_drop]
            rw [e2, e, List.nodup_append] at h2
            have h3 := h2.1
            rw [List.nodup_append] at h3
            exact absurd rfl (h3.2.2 _ ((inB_iff _ _).1 c1) _ (List.mem_singleton.2 rfl))⟩
        | false =>
          rw [c1] at h1
          obtain ⟨r, hr, hq⟩ := ih (i + 1) (by omega) (by omega) (by
            rw [e, List.nodup_append]
            refine ⟨hnd, by simp, fun a ha b hb hab => ?_⟩
            rw [List.mem_singleton] at hb
            subst hb
            subst hab
            have := (inB_iff _ _).2 ha
            rw [c1] at this
            cases this) (fun p hp => by
            rw [List.take_succ_eq_append_getElem hlt] at hp
            rcases List.mem_append.1 hp with hp | hp
            · exact hrt p hp
            · rw [List.mem_singleton] at hp
              subst hp
              exact hbi.1 rfl)
          rw [e] at hr
          exact ⟨r, Ev.step hstep (Ev.bind hb (Ev.congr (fun k => if_pos rfl) (Ev.bind h1 (Ev.congr (fun k => by rw [if_neg (by decide), if_pos (by omega)]) hr)))), hq⟩
  obtain ⟨r, hr, hq⟩ := main ps.length 0 (by omega) (Nat.zero_le _) (by rw [List.take_zero]; exact List.nodup_nil) (fun p hp => by rw [List.take_zero] at hp; cases hp)
  exact ⟨r, Ev.congr (fun k => by unfold plan_first.f; rfl) hr, hq⟩
end Go.Proofs.YtgfdcakeplamnaaDoor.PAll
