/- What plan.first comes to. -/
import Derived.Test.YtgfdcakeplamnaaDoorPAllx3
import Derived.Test.YtgfdcakeplamnaaDoorPf
namespace Go.Proofs.YtgfdcakeplamnaaDoor.PAll
open Go.RowKit Go.Proofs.YtgfdcakeplamnaaDoorW.PrintWords Go.Proofs.YtgfdcakeplamnaaDoorW.PrintLast Hd
set_option linter.unusedVariables false
theorem inB_iff (l : List ByteArray) (s : ByteArray) : inB l s = true ↔ s ∈ l := by
  unfold inB
  rw [List.any_eq_true]
  constructor
  · rintro ⟨x, hx, h⟩
    rw [decide_eq_true_eq] at h
    subst h
    exact hx
  · intro h
    exact ⟨s, h, by simp⟩
theorem needs_tot (l : List ByteArray) (nm : ByteArray) (hl : l.length ≤ 30) : ∃ b, Ev (fun k => pack_needs.f k l nm) b := by
  have main : ∀ (d i : Nat), l.length - i = d → i ≤ l.length → ∃ b, Ev (fun k => pack_needs.l0 k l nm l (l.length : Int) (i : Int)) b := by
    intro d
    induction d with
    | zero =>
      intro i hd hi
      exact ⟨_, Ev.step (f := fun _ => some (decide ((l.length : Int) ≤ 20))) (fun k => by rw [pack_needs.l0, if_neg (by omega)]) (Ev.now _)⟩
    | succ d ih =>
      intro i hd hi
      have hlt : i < l.length := by omega
      obtain ⟨b, hb⟩ := ih (i + 1) (by omega) (by omega)
      have hstep : ∀ k, pack_needs.l0 (k + 1) l nm l (l.length : Int) (i : Int) = (name_Class.f l[i]).bind fun t145 => (if t145 = true then (if (l[i]).toList = nm.toList then (some false) else (if (i : Int) > 0 then (if 0 ≤ (wrap64 ((i : Int) - 1)) then (if (wrap64 ((i : Int) - 1)) < (l.length : Int) then (if ((Op.bytesLess ((rdOf ByteArray.empty l (wrap64 ((i : Int) - 1))).toList) ((l[i]).toList)) = true) then (pack_needs.l0 k l nm l (l.length : Int) ((i + 1 : Nat) : Int)) else (some false)) else (none)) else (none)) else (pack_needs.l0 k l nm l (l.length : Int) ((i + 1 : Nat) : Int)))) else (some false)) := fun k => by
        rw [pack_needs.l0, if_pos (by omega), if_pos (by omega), if_pos (by omega), rdOf_get l i hlt, w64 hlt (by omega)]
      have hcv := class_val l[i]
      by_cases hc : Nm.clsN (BL l[i]) = true
      · by_cases hn : (l[i]).toList = nm.toList
        · exact ⟨false, Ev.step (f := fun _ => some false) (fun k => by rw [hstep, hcv, Option.bind_some, if_pos hc, if_pos hn]) (Ev.now _)⟩
        · by_cases h0 : (i : Int) > 0
          · have hw : wrap64 ((i : Int) - 1) = (i : Int) - 1 := IntWalk.wrap64_in _ (by omega)
            by_cases hlss : Op.bytesLess ((rdOf ByteArray.empty l ((i : Int) - 1)).toList) ((l[i]).toList) = true
            · exact ⟨b, Ev.step (fun k => by rw [hstep, hcv, Option.bind_some, if_pos hc, if_neg hn, if_pos h0, hw, if_pos (by omega), if_pos (by omega), if_pos hlss]) hb⟩
            · exact ⟨false, Ev.step (f := fun _ => some false) (fun k => by rw [hstep, hcv, Option.bind_some, if_pos hc, if_neg hn, if_pos h0, hw, if_pos (by omega), if_pos (by omega), if_neg hlss]) (Ev.now _)⟩
          · exact ⟨b, Ev.step (fun k => by rw [hstep, hcv, Option.bind_some, if_pos hc, if_neg hn, if_neg h0]) hb⟩
      · exact ⟨false, Ev.step (f := fun _ => some false) (fun k => by rw [hstep, hcv, Option.bind_some, if_neg hc]) (Ev.now _)⟩
  obtain ⟨b, hb⟩ := main l.length 0 (by omega) (Nat.zero_le _)
  exact ⟨b, Ev.congr (fun k => by unfold pack_needs.f; rfl) hb⟩
theorem right_tot (p : S34) (hp : SmallP p) : ∃ b, Ev (fun k => pack_Right.f k p.f0 p.f1 p.f2 p.f3) b := by
  obtain ⟨s0, s2, s2x, s3, s3x⟩ := hp
  have hend : ∀ last : ByteArray, ∃ b, Ev (fun k => pack_Right.l0 k last p.f3 (p.f3.length : Int) (p.f3.length : Int) p.f0 p.f1 p.f2 p.f3) b := by
    intro last
    have hstep : ∀ k, pack_Right.l0 (k + 1) last p.f3 (p.f3.length : Int) (p.f3.length : Int) p.f0 p.f1 p.f2 p.f3 = (name_Class.f p.f0).bind fun t151 => (if t151 = true then (if p.f1 ≥ 1 then (if p.f1 ≤ 2147483647 then ((pack_needs.f k p.f2 p.f0).bind fun t152 => (if t152 = true then (some (decide ((p.f3.length : Int) ≤ 500))) else (some false))) else (some false)) else (some false)) else (some false)) := fun k => by
      rw [pack_Right.l0, if_neg (by omega)]
    have hcv := class_val p.f0
    by_cases hc : Nm.clsN (BL p.f0) = true
    · by_cases h1 : p.f1 ≥ 1
      · by_cases h2 : p.f1 ≤ 2147483647
        · obtain ⟨b, hb⟩ := needs_tot p.f2 p.f0 s2
          cases b with
          | true => exact ⟨_, Ev.step (fun k => by rw [hstep, hcv, Option.bind_some, if_pos hc, if_pos h1, if_pos h2]) (Ev.bind hb (Ev.congr (f := fun _ => some (decide ((p.f3.length : Int) ≤ 500))) (fun k => if_pos rfl) (Ev.now _)))⟩
          | false => exact ⟨false, Ev.step (fun k => by rw [hstep, hcv, Option.bind_some, if_pos hc, if_pos h1, if_pos h2]) (Ev.bind hb (Ev.congr (f := fun _ => some false) (fun k => if_neg Bool.false_ne_true) (Ev.now _)))⟩
        · exact ⟨false, Ev.step (f := fun _ => some false) (fun k => by rw [hstep, hcv, Option.bind_some, if_pos hc, if_pos h1, if_neg h2]) (Ev.now _)⟩
      · exact ⟨false, Ev.step (f := fun _ => some false) (fun k => by rw [hstep, hcv, Option.bind_some, if_pos hc, if_neg h1]) (Ev.now _)⟩
    · exact ⟨false, Ev.step (f := fun _ => some false) (fun k => by rw [hstep, hcv, Option.bind_some, if_neg hc]) (Ev.now _)⟩
  have main : ∀ (d i : Nat), p.f3.length - i = d → i ≤ p.f3.length → ∀ last : ByteArray, ∃ b, Ev (fun k => pack_Right.l0 k last p.f3 (p.f3.length : Int) (i : Int) p.f0 p.f1 p.f2 p.f3) b := by
    intro d
    induction d with
    | zero =>
      intro i hd hi last
      obtain rfl : i = p.f3.length := by omega
      exact hend last
    | succ d ih =>
      intro i hd hi last
      have hlt : i < p.f3.length := by omega
      obtain ⟨a1, a2, a3, a4, a5, a6⟩ := smallD_of (s3x _ (List.getElem_mem hlt))
      have hkv := Key_val (p.f3[i]).f0 (p.f3[i]).f1 (p.f3[i]).f2 (p.f3[i]).f3 (p.f3[i]).f4 (p.f3[i]).f5 (by omega) (by omega) (by omega)
      obtain ⟨b, hb⟩ := ih (i + 1) (by omega) (by omega) (keyD (p.f3[i]).f0 (p.f3[i]).f1 (p.f3[i]).f2 (p.f3[i]).f3 (p.f3[i]).f4 (p.f3[i]).f5)
      have hstep : ∀ k, pack_Right.l0 (k + 1) last p.f3 (p.f3.length : Int) (i : Int) p.f0 p.f1 p.f2 p.f3 = (def_Key.f k (p.f3[i]).f0 (p.f3[i]).f1 (p.f3[i]).f2 (p.f3[i]).f3 (p.f3[i]).f4 (p.f3[i]).f5).bind fun t150 => (if ((Op.bytesLess last.toList t150.toList) = true) then (pack_Right.l0 k t150 p.f3 (p.f3.length : Int) ((i + 1 : Nat) : Int) p.f0 p.f1 p.f2 p.f3) else (some false)) := fun k => by
        rw [pack_Right.l0, if_pos (by omega), if_pos (by omega), if_pos (by omega), rd68 p.f3 i hlt, w64 hlt (by omega)]
      by_cases hlss : Op.bytesLess last.toList (keyD (p.f3[i]).f0 (p.f3[i]).f1 (p.f3[i]).f2 (p.f3[i]).f3 (p.f3[i]).f4 (p.f3[i]).f5).toList = true
      · exact ⟨b, Ev.step hstep (Ev.bind hkv (Ev.congr (fun k => if_pos hlss) hb))⟩
      · exact ⟨false, Ev.step hstep (Ev.bind hkv (Ev.congr (f := fun _ => some false) (fun k => if_neg hlss) (Ev.now _)))⟩
  obtain ⟨b, hb⟩ := main p.f3.length 0 (by omega) (Nat.zero_le _) ⟨#[]⟩
  exact ⟨b, Ev.congr (fun k => by unfold pack_Right.f; rfl) hb⟩
/-- What the laws need of plan.first's answer. -/
def FirstOk (th : List ByteArray) (ps : List S34) (r : Int × ByteArray) : Prop :=
  r.1 ≠ 71 ∧ (r.1 = 0 → (ps.map fun p => p.f0).Nodup ∧ ∀ p ∈ ps, ∀ m ∈ p.f2, m ∈ th ∨ m ∈ ps.map fun p => p.f0)
theorem first_l2 (th : List ByteArray) (ps : List S34) (i : Nat) (hi : i < ps.length) (hth : th.length ≤ 1000) (hps : ps.length ≤ 100) (hs : ∀ p ∈ ps, SmallP p)
    (hnext : (∀ m ∈ (ps[i]).f2, m ∈ th ∨ m ∈ ps.map fun p => p.f0) → ∃ r, Ev (fun k => plan_first.l1 k th (ps.map fun p => p.f0) ps (ps.length : Int) ((i + 1 : Nat) : Int)) r ∧ FirstOk th ps r) :
    ∀ (d j : Nat), (ps[i]).f2.length - j = d → j ≤ (ps[i]).f2.length → (∀ m ∈ (ps[i]).f2.take j, m ∈ th ∨ m ∈ ps.map fun p => p.f0) →
      ∃ r, Ev (fun k => plan_first.l2 k th (ps.map fun p => p.f0) ps (ps.length : Int) (i : Int) (ps[i]).f2 ((ps[i]).f2.length : Int) (j : Int)) r ∧ FirstOk th ps r := by
  have hsp := (hs _ (List.getElem_mem hi)).2.1
  intro d
  induction d with
  | zero =>
    intro j hd hj hok
    obtain rfl : j = (ps[i]).f2.length := by omega
    rw [List.take_length] at hok
    obtain ⟨r, hr, hq⟩ := hnext hok
    exact ⟨r, Ev.step (fun k => by rw [plan_first.l2, if_neg (by omega), w64 hi (by omega)]) hr, hq⟩
  | succ d ih =>
    intro j hd hj hok
    have hlt : j < (ps[i]).f2.length := by omega
    have hstep : ∀ k, plan_first.l2 (k + 1) th (ps.map fun p => p.f0) ps (ps.length : Int) (i : Int) (ps[i]).f2 ((ps[i]).f2.length : Int) (j : Int) = (slices_Contains_string_string.f k th ((ps[i]).f2[j])).bind fun t163 => (if t163 = true then (plan_first.l2 k th (ps.map fun p => p.f0) ps (ps.length : Int) (i : Int) (ps[i]).f2 ((ps[i]).f2.length : Int) ((j + 1 : Nat) : Int)) else ((slices_Contains_string_string.f k (ps.map fun p => p.f0) ((ps[i]).f2[j])).bind fun t164 => (if t164 = true then (plan_first.l2 k th (ps.map fun p => p.f0) ps (ps.length : Int) (i : Int) (ps[i]).f2 ((ps[i]).f2.length : Int) ((j + 1 : Nat) : Int)) else (some (73, (ps[i]).f2[j]))))) := fun k => by
      rw [plan_first.l2, if_pos (by omega), if_pos (by omega), if_pos (by omega), rdOf_get (ps[i]).f2 j hlt, w64 hlt (by omega)]
    have h1 := Contains_val th ((ps[i]).f2[j]) (by omega)
    have h2 := Contains_val (ps.map fun p => p.f0) ((ps[i]).f2[j]) (by rw [List.length_map]; omega)
    have hn : (inB th ((ps[i]).f2[j]) = true ∨ inB (ps.map fun p => p.f0) ((ps[i]).f2[j]) = true) → ∃ r, Ev (fun k => plan_first.l2 k th (ps.map fun p => p.f0) ps (ps.length : Int) (i : Int) (ps[i]).f2 ((ps[i]).f2.length : Int) ((j + 1 : Nat) : Int)) r ∧ FirstOk th ps r := fun h => ih (j + 1) (by omega) (by omega) (fun m hm => by
      rw [List.take_succ_eq_append_getElem hlt] at hm
      rcases List.mem_append.1 hm with hm | hm
      · exact hok m hm
      · rw [List.mem_singleton] at hm
        subst hm
        rcases h with h | h
        · exact Or.inl ((inB_iff _ _).1 h)
        · exact Or.inr ((inB_iff _ _).1 h))
    cases c1 : inB th ((ps[i]).f2[j]) with
    | true =>
      rw [c1] at h1
      obtain ⟨r, hr, hq⟩ := hn (Or.inl c1)
      exact ⟨r, Ev.step hstep (Ev.bind h1 (Ev.congr (fun k => if_pos rfl) hr)), hq⟩
    | false =>
      rw [c1] at h1
      cases c2 : inB (ps.map fun p => p.f0) ((ps[i]).f2[j]) with
      | true =>
        rw [c2] at h2
        obtain ⟨r, hr, hq⟩ := hn (Or.inr c2)
        exact ⟨r, Ev.step hstep (Ev.bind h1 (Ev.congr (fun k => if_neg (by decide)) (Ev.bind h2 (Ev.congr (fun k => if_pos rfl) hr)))), hq⟩
      | false =>
        rw [c2] at h2
        exact ⟨(73, (ps[i]).f2[j]), Ev.step hstep (Ev.bind h1 (Ev.congr (fun k => if_neg (by decide)) (Ev.bind h2 (Ev.congr (f := fun _ => some (73, (ps[i]).f2[j])) (fun k => if_neg (by decide)) (Ev.now _))))), by show (73 : Int) ≠ 71; decide, fun h => absurd h (by show ¬ (73 : Int) = 0; decide)⟩
theorem first_l1 (th : List ByteArray) (ps : List S34) (hth : th.length ≤ 1000) (hps : ps.length ≤ 100) (hs : ∀ p ∈ ps, SmallP p) (hnd : (ps.map fun p => p.f0).Nodup) :
    ∀ (d i : Nat), ps.length - i = d → i ≤ ps.length → (∀ p ∈ ps.take i, ∀ m ∈ p.f2, m ∈ th ∨ m ∈ ps.map fun p => p.f0) →
      ∃ r, Ev (fun k => plan_first.l1 k th (ps.map fun p => p.f0) ps (ps.length : Int) (i : Int)) r ∧ FirstOk th ps r := by
  intro d
  induction d with
  | zero =>
    intro i hd hi hok
    obtain rfl : i = ps.length := by omega
    rw [List.take_length] at hok
    exact ⟨(0, ⟨#[]⟩), Ev.step (f := fun _ => some (0, (⟨#[]⟩ : ByteArray))) (fun k => by rw [plan_first.l1, if_neg (by omega)]) (Ev.now _), by show (0 : Int) ≠ 71; decide, fun _ => ⟨hnd, hok⟩⟩
  | succ d ih =>
    intro i hd hi hok
    have hlt : i < ps.length := by omega
    obtain ⟨r, hr, hq⟩ := first_l2 th ps i hlt hth hps hs (fun h => ih (i + 1) (by omega) (by omega) (fun p hp => by
      rw [List.take_succ_eq_append_getElem hlt] at hp
      rcases List.mem_append.1 hp with hp | hp
      · exact hok p hp
      · rw [List.mem_singleton] at hp
        subst hp
        exact h)) _ 0 rfl (Nat.zero_le _) (fun m hm => by rw [List.take_zero] at hm; cases hm)
    exact ⟨r, Ev.step (fun k => by rw [plan_first.l1, if_pos (by omega), if_pos (by omega), if_pos (by omega), rd34 ps i hlt]; rfl) hr, hq⟩
theorem first_tot (th : List ByteArray) (ps : List S34) (hth : th.length ≤ 1000) (hps : ps.length ≤ 100) (hs : ∀ p ∈ ps, SmallP p) : ∃ r, Ev (fun k => plan_first.f k th ps) r ∧ FirstOk th ps r := by
  have main : ∀ (d i : Nat), ps.length - i = d → i ≤ ps.length → ((ps.take i).map fun p => p.f0).Nodup → ∃ r, Ev (fun k => plan_first.l0 k th ps ((ps.take i).map fun p => p.f0) ps (ps.length : Int) (i : Int)) r ∧ FirstOk th ps r := by
    intro d
    induction d with
    | zero =>
      intro i hd hi hnd
      obtain rfl : i = ps.length := by omega
      rw [List.take_length] at hnd ⊢
      obtain ⟨r, hr, hq⟩ := first_l1 th ps hth hps hs hnd _ 0 rfl (Nat.zero_le _) (fun p hp => by rw [List.take_zero] at hp; cases hp)
      exact ⟨r, Ev.step (fun k => by rw [plan_first.l0, if_neg (by omega)]; rfl) hr, hq⟩
    | succ d ih =>
      intro i hd hi hnd
      have hlt : i < ps.length := by omega
      have hstep : ∀ k, plan_first.l0 (k + 1) th ps ((ps.take i).map fun p => p.f0) ps (ps.length : Int) (i : Int) = (pack_Right.f k (ps[i]).f0 (ps[i]).f1 (ps[i]).f2 (ps[i]).f3).bind fun t155 => (if t155 = true then ((slices_Contains_string_string.f k ((ps.take i).map fun p => p.f0) (ps[i]).f0).bind fun t156 => (if t156 = true then (some (45, (ps[i]).f0)) else (if ((ps.take i).map fun p => p.f0).length < 8796093022208 then (plan_first.l0 k th ps (((ps.take i).map fun p => p.f0) ++ [(ps[i]).f0]) ps (ps.length : Int) ((i + 1 : Nat) : Int)) else (none)))) else (some (2, (ps[i]).f0))) := fun k => by
        rw [plan_first.l0, if_pos (by omega), if_pos (by omega), if_pos (by omega), rd34 ps i hlt, w64 hlt (by omega)]
      have hln : ((ps.take i).map fun p => p.f0).length ≤ 100 := by rw [List.length_map, List.length_take]; omega
      obtain ⟨b, hb⟩ := right_tot ps[i] (hs _ (List.getElem_mem hlt))
      have h1 := Contains_val ((ps.take i).map fun p => p.f0) (ps[i]).f0 (by omega)
      have e : ((ps.take (i + 1)).map fun p => p.f0) = ((ps.take i).map fun p => p.f0) ++ [(ps[i]).f0] := by rw [List.take_succ_eq_append_getElem hlt, List.map_append]; rfl
      cases b with
      | false => exact ⟨(2, (ps[i]).f0), Ev.step hstep (Ev.bind hb (Ev.congr (f := fun _ => some (2, (ps[i]).f0)) (fun k => if_neg (by decide)) (Ev.now _))), by show (2 : Int) ≠ 71; decide, fun h => absurd h (by show ¬ (2 : Int) = 0; decide)⟩
      | true =>
        cases c1 : inB ((ps.take i).map fun p => p.f0) (ps[i]).f0 with
        | true =>
          rw [c1] at h1
          exact ⟨(45, (ps[i]).f0), Ev.step hstep (Ev.bind hb (Ev.congr (fun k => if_pos rfl) (Ev.bind h1 (Ev.congr (f := fun _ => some (45, (ps[i]).f0)) (fun k => if_pos rfl) (Ev.now _))))), by show (45 : Int) ≠ 71; decide, fun h => absurd h (by show ¬ (45 : Int) = 0; decide)⟩
        | false =>
          rw [c1] at h1
          obtain ⟨r, hr, hq⟩ := ih (i + 1) (by omega) (by omega) (by
            rw [e, List.nodup_append]
            refine ⟨hnd, by simp, fun a ha b hb hab => ?_⟩
            rw [List.mem_singleton] at hb
            subst hb
            subst hab
            have := (inB_iff _ _).2 ha
            rw [c1] at this
            cases this)
          rw [e] at hr
          exact ⟨r, Ev.step hstep (Ev.bind hb (Ev.congr (fun k => if_pos rfl) (Ev.bind h1 (Ev.congr (fun k => by rw [if_neg (by decide), if_pos (by omega)]) hr)))), hq⟩
  obtain ⟨r, hr, hq⟩ := main ps.length 0 (by omega) (Nat.zero_le _) (by rw [List.take_zero]; exact List.nodup_nil)
  exact ⟨r, Ev.congr (fun k => by unfold plan_first.f; rfl) hr, hq⟩
end Go.Proofs.YtgfdcakeplamnaaDoor.PAll
