/- One more package that nobody needs and that needs none: the plan. -/
import Derived.Test.YtgfdcakeplamnaaDoorPAllx4
import Derived.Test.YtgfdcakeplamnaaDoorPAllx8
import Derived.Test.YtgfdcakeplamnaaDoorPm
import Derived.Test.YtgfdcakeplamnaaDoorPwc
namespace Go.Proofs.YtgfdcakeplamnaaDoor.PAll
open Go.RowKit Go.Proofs.YtgfdcakeplamnaaDoorW.PrintWords Go.Proofs.YtgfdcakeplamnaaDoorW.PrintLast Hd
set_option linter.unusedVariables false
def lackR (o : Option ByteArray) (r : Int × ByteArray) : Int × ByteArray := match o with
  | some m => (73, m)
  | none => r
theorem firstIs_l2 (th names : List ByteArray) (ps : List S34) (i : Nat) (hi : i < ps.length) (hth : th.length ≤ 1000) (hn : names.length ≤ 1000) (hps : ps.length ≤ 100) (hs : ∀ p ∈ ps, SmallP p) (r : Int × ByteArray)
    (hnext : Ev (fun k => plan_first.l1 k th names ps (ps.length : Int) ((i + 1 : Nat) : Int)) r) :
    ∀ (d j : Nat), (ps[i]).f2.length - j = d → j ≤ (ps[i]).f2.length →
      Ev (fun k => plan_first.l2 k th names ps (ps.length : Int) (i : Int) (ps[i]).f2 ((ps[i]).f2.length : Int) (j : Int)) (lackR (((ps[i]).f2.drop j).find? fun m => !(inB th m || inB names m)) r) := by
  have hsp := (hs _ (List.getElem_mem hi)).2.1
  intro d
  induction d with
  | zero =>
    intro j hd hj
    obtain rfl : j = (ps[i]).f2.length := by omega
    rw [List.drop_length]
    exact Ev.step (fun k => by rw [plan_first.l2, if_neg (by omega), w64 hi (by omega)]) hnext
  | succ d ih =>
    intro j hd hj
    have hlt : j < (ps[i]).f2.length := by omega
    have hstep : ∀ k, plan_first.l2 (k + 1) th names ps (ps.length : Int) (i : Int) (ps[i]).f2 ((ps[i]).f2.length : Int) (j : Int) = (slices_Contains_string_string.f k th ((ps[i]).f2[j])).bind fun t163 => (if t163 = true then (plan_first.l2 k th names ps (ps.length : Int) (i : Int) (ps[i]).f2 ((ps[i]).f2.length : Int) ((j + 1 : Nat) : Int)) else ((slices_Contains_string_string.f k names ((ps[i]).f2[j])).bind fun t164 => (if t164 = true then (plan_first.l2 k th names ps (ps.length : Int) (i : Int) (ps[i]).f2 ((ps[i]).f2.length : Int) ((j + 1 : Nat) : Int)) else (some (73, (ps[i]).f2[j]))))) := fun k => by
      rw [plan_first.l2, if_pos (by omega), if_pos (by omega), if_pos (by omega), rdOf_get (ps[i]).f2 j hlt, w64 hlt (by omega)]
    have h1 := Contains_val th ((ps[i]).f2[j]) (by omega)
    have h2 := Contains_val names ((ps[i]).f2[j]) (by omega)
    have hr := ih (j + 1) (by omega) (by omega)
    rw [List.drop_eq_getElem_cons hlt, List.find?_cons]
    cases c1 : inB th ((ps[i]).f2[j]) with
    | true =>
      rw [c1] at h1
      exact Ev.step hstep (Ev.bind h1 (Ev.congr (fun k => if_pos rfl) hr))
    | false =>
      rw [c1] at h1
      cases c2 : inB names ((ps[i]).f2[j]) with
      | true =>
        rw [c2] at h2
        exact Ev.step hstep (Ev.bind h1 (Ev.congr (fun k => if_neg (by decide)) (Ev.bind h2 (Ev.congr (fun k => if_pos rfl) hr))))
      | false =>
        rw [c2] at h2
        exact Ev.step hstep (Ev.bind h1 (Ev.congr (fun k => if_neg (by decide)) (Ev.bind h2 (Ev.congr (f := fun _ => some (73, (ps[i]).f2[j])) (fun k => if_neg (by decide)) (Ev.now _)))))
theorem firstIs_l1 (th names : List ByteArray) (ps : List S34) (hth : th.length ≤ 1000) (hn : names.length ≤ 1000) (hps : ps.length ≤ 100) (hs : ∀ p ∈ ps, SmallP p) :
    ∀ (d i : Nat), ps.length - i = d → i ≤ ps.length → Ev (fun k => plan_first.l1 k th names ps (ps.length : Int) (i : Int)) (lackR (lackV th names (ps.drop i)) (0, ⟨#[]⟩)) := by
  intro d
  induction d with
  | zero =>
    intro i hd hi
    obtain rfl : i = ps.length := by omega
    rw [List.drop_length]
    exact Ev.step (f := fun _ => some (0, (⟨#[]⟩ : ByteArray))) (fun k => by rw [plan_first.l1, if_neg (by omega)]) (Ev.now _)
  | succ d ih =>
    intro i hd hi
    have hlt : i < ps.length := by omega
    have h := firstIs_l2 th names ps i hlt hth hn hps hs _ (ih (i + 1) (by omega) (by omega)) _ 0 rfl (Nat.zero_le _)
    rw [List.drop_zero] at h
    have e : lackR (lackV th names (ps.drop i)) (0, ⟨#[]⟩) = lackR ((ps[i]).f2.find? fun m => !(inB th m || inB names m)) (lackR (lackV th names (ps.drop (i + 1))) (0, ⟨#[]⟩)) := by
      rw [List.drop_eq_getElem_cons hlt]
      unfold lackV
      rw [List.flatMap_cons, List.find?_append]
      cases (ps[i]).f2.find? fun m => !(inB th m || inB names m) <;> rfl
    rw [e]
    exact Ev.step (fun k => by rw [plan_first.l1, if_pos (by omega), if_pos (by omega), if_pos (by omega), rd34 ps i hlt]; rfl) h
theorem first_is (th : List ByteArray) (ps : List S34) (hth : th.length ≤ 1000) (hps : ps.length ≤ 100) (hs : ∀ p ∈ ps, SmallP p) : Ev (fun k => plan_first.f k th ps) (firstV th ps) := by
  have main : ∀ (d i : Nat), ps.length - i = d → i ≤ ps.length → Ev (fun k => plan_first.l0 k th ps ((ps.take i).map fun p => p.f0) ps (ps.length : Int) (i : Int)) (match faultV ((ps.take i).map fun p => p.f0) (ps.drop i) with
    | some r => r
    | none => lackR (lackV th (ps.map fun p => p.f0) ps) (0, ⟨#[]⟩)) := by
    intro d
    induction d with
    | zero =>
      intro i hd hi
      obtain rfl : i = ps.length := by omega
      rw [List.take_length, List.drop_length]
      have h := firstIs_l1 th (ps.map fun p => p.f0) ps hth (by rw [List.length_map]; omega) hps hs _ 0 rfl (Nat.zero_le _)
      rw [List.drop_zero] at h
      exact Ev.step (fun k => by rw [plan_first.l0, if_neg (by omega)]; rfl) h
    | succ d ih =>
      intro i hd hi
      have hlt : i < ps.length := by omega
      have hstep : ∀ k, plan_first.l0 (k + 1) th ps ((ps.take i).map fun p => p.f0) ps (ps.length : Int) (i : Int) = (pack_Right.f k (ps[i]).f0 (ps[i]).f1 (ps[i]).f2 (ps[i]).f3).bind fun t155 => (if t155 = true then ((slices_Contains_string_string.f k ((ps.take i).map fun p => p.f0) (ps[i]).f0).bind fun t156 => (if t156 = true then (some (45, (ps[i]).f0)) else (if ((ps.take i).map fun p => p.f0).length < 8796093022208 then (plan_first.l0 k th ps (((ps.take i).map fun p => p.f0) ++ [(ps[i]).f0]) ps (ps.length : Int) ((i + 1 : Nat) : Int)) else (none)))) else (some (2, (ps[i]).f0))) := fun k => by
        rw [plan_first.l0, if_pos (by omega), if_pos (by omega), if_pos (by omega), rd34 ps i hlt, w64 hlt (by omega)]
      have hln : ((ps.take i).map fun p => p.f0).length ≤ 100 := by rw [List.length_map, List.length_take]; omega
      obtain ⟨b, hb, hbi⟩ := right_iff ps[i] (hs _ (List.getElem_mem hlt))
      have h1 := Contains_val ((ps.take i).map fun p => p.f0) (ps[i]).f0 (by omega)
      have e : ((ps.take (i + 1)).map fun p => p.f0) = ((ps.take i).map fun p => p.f0) ++ [(ps[i]).f0] := by rw [List.take_succ_eq_append_getElem hlt, List.map_append]; rfl
      rw [List.drop_eq_getElem_cons hlt]
      unfold faultV
      cases b with
      | false =>
        rw [if_pos (fun h => absurd (hbi.2 h) Bool.false_ne_true)]
        exact Ev.step hstep (Ev.bind hb (Ev.congr (f := fun _ => some (2, (ps[i]).f0)) (fun k => if_neg (by decide)) (Ev.now _)))
      | true =>
        rw [if_neg (not_not_intro (hbi.1 rfl))]
        cases c1 : inB ((ps.take i).map fun p => p.f0) (ps[i]).f0 with
        | true =>
          rw [c1] at h1
          rw [if_pos ((inB_iff _ _).1 c1)]
          exact Ev.step hstep (Ev.bind hb (Ev.congr (fun k => if_pos rfl) (Ev.bind h1 (Ev.congr (f := fun _ => some (45, (ps[i]).f0)) (fun k => if_pos rfl) (Ev.now _)))))
        | false =>
          rw [c1] at h1
          rw [if_neg (fun h => by rw [(inB_iff _ _).2 h] at c1; cases c1)]
          have hr := ih (i + 1) (by omega) (by omega)
          rw [e] at hr
          exact Ev.step hstep (Ev.bind hb (Ev.congr (fun k => if_pos rfl) (Ev.bind h1 (Ev.congr (fun k => by rw [if_neg (by decide), if_pos (by omega)]) hr))))
  have h := main ps.length 0 (by omega) (Nat.zero_le _)
  rw [List.take_zero, List.drop_zero] at h
  exact Ev.congr (fun k => by unfold plan_first.f; rfl) h
/-- A package without needs and definitions is right just when its name is one. -/
theorem right_bare (n : ByteArray) : rightP ⟨n, 1, [], []⟩ ↔ Nm.clsN (BL n) = true := by
  have h : Ev (fun k => pack_Right.f k n 1 [] []) (Nm.clsN (BL n)) := by
    refine Ev.congr (fun k => by unfold pack_Right.f; rfl) (Ev.step (fun k => by rw [pack_Right.l0, if_neg (by decide), class_val, Option.bind_some]) ?_)
    cases Nm.clsN (BL n) with
    | false => exact Ev.congr (f := fun _ => some false) (fun k => by rw [if_neg Bool.false_ne_true]) (Ev.now _)
    | true =>
      refine Ev.congr (fun k => by rw [if_pos rfl, if_pos (by decide), if_pos (by decide)]) (Ev.bind (r := true) ?_ (Ev.congr (f := fun _ => some true) (fun k => by rw [if_pos rfl]; rfl) (Ev.now _)))
      exact Ev.congr (fun k => by unfold pack_needs.f; rfl) (Ev.step (f := fun _ => some true) (fun k => by rw [pack_needs.l0, if_neg (by decide)]; rfl) (Ev.now _))
  constructor
  · rintro ⟨k, hk⟩
    exact (ev_one h (Ev.of (fun k => pack_Right.mono _ _ _ _ k) hk)).trans rfl
  · intro e
    rw [e] at h
    obtain ⟨K, hK⟩ := h
    exact ⟨K, hK K (Nat.le_refl _)⟩
end Go.Proofs.YtgfdcakeplamnaaDoor.PAll
