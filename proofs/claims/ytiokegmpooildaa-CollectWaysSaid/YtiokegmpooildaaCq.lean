/- The reference's Reached: what is reached, too. -/
import Derived.Test.YtiokegmpooildaaCp
import Derived.Test.YtiokegmpooildaaPAllx5
namespace Go.Proofs.Ytiokegmpooildaa.Hp
open Go.RowKit Go.Proofs.YtiokegmpooildaaW.PrintWords Go.Proofs.YtiokegmpooildaaW.PrintLast Go.Proofs.YtiokegmpooildaaW.PrintMore Go.Proofs.Ytiokegmpooildaa.PAll
set_option linter.unusedVariables false
set_option linter.unusedSimpArgs false
structure RInv (l : List S53) (roots : List Int) (out : List Bool) : Prop where
  len : out.length = l.length
  sound : ∀ S, ClosedS l roots S → ∀ i, i < l.length → out.getD i false = true → S i
theorem RInv.mark {l : List S53} {roots : List Int} {out : List Bool} (h : RInv l roots out) (k : Nat) (hk : ∀ S, ClosedS l roots S → S k) : RInv l roots (out.set k true) := by
  refine ⟨by rw [List.length_set]; exact h.len, fun S hS i hi hb => ?_⟩
  by_cases e : k = i
  · subst e; exact hk S hS
  · rw [getD_set_other out k i e] at hb
    exact h.sound S hS i hi hb
def RootsIn (l : List S53) (roots : List Int) (out : List Bool) : Prop := ∀ a ∈ (0 : Int) :: roots, thereP l.length a = true → out.getD (a / 2).toNat false = true
/-- The first i objects' words are done. -/
def UpTo (l : List S53) (out : List Bool) (i : Nat) : Prop := ∀ j, j < i → out.getD j false = true → ∀ a ∈ wordsO (l.getD j z53), thereP l.length a = true → out.getD (a / 2).toNat false = true
structure RSt (l : List S53) (roots : List Int) (u : Nat) (out : List Bool) (again : Bool) (i : Nat) : Prop where
  inv : RInv l roots out
  rts : RootsIn l roots out
  le : uw l out ≤ u
  no : again = false → UpTo l out i
  yes : again = true → uw l out < u
def GoodR (l : List S53) (roots : List Int) (r : Option (List Bool)) : Prop := ∃ bs, r = some bs ∧ Marked l roots bs
theorem rdOf_eq (out : List Bool) (i : Int) : rdOf false out i = out.getD i.toNat false := rfl
theorem wordsO_W {l : List S53} (hW : WordsL l) {i : Nat} (hi : i < l.length) : ∀ a ∈ wordsO (l.getD i z53), W64 a := by
  intro a ha
  have := hW (l.getD i z53) (by rw [List.getD_eq_getElem?_getD, List.getElem?_eq_getElem hi]; exact List.getElem_mem _)
  rcases List.mem_cons.1 ha with rfl | ha
  · exact this.1
  · exact this.2 a ha
theorem r_l3 (l : List S53) (roots : List Int) (hl : l.length ≤ 5000) (hW : WordsL l) (u D : Nat) (i : Int) (hi0 : 0 ≤ i) (hi1 : i < (l.length : Int)) (all : List Int) (hall : all = wordsO (l.getD i.toNat z53)) (hlen : all.length ≤ 200000)
    (IH : ∀ (m : Nat) (out : List Bool) (again : Bool), D < m → RSt l roots u out again (i + 1).toNat → GoodR l roots (monticuleref19_Reached.l2 m l out again (i + 1))) :
    ∀ (e k : Nat) (j : Int) (out : List Bool) (again : Bool), 0 ≤ j → j + e = all.length → D + e + 1 < k → RSt l roots u out again i.toNat → out.getD i.toNat false = true → (again = false → ∀ a ∈ all.take j.toNat, thereP l.length a = true → out.getD (a / 2).toNat false = true) → GoodR l roots (monticuleref19_Reached.l3 k l out again i all j)
  | 0, k, j, out, again, j0, je, hk, h, hout, hd => by
    obtain ⟨m, rfl⟩ : ∃ m, k = m + 1 := ⟨k - 1, by omega⟩
    simp only [monticuleref19_Reached.l3]
    rw [if_neg (by omega), w64_next hi0 (n := l.length) (by omega) (by omega)]
    refine IH m out again (by omega) ⟨h.inv, h.rts, h.le, fun ha => ?_, h.yes⟩
    intro j' hj' hb a haw ht
    by_cases e : j' = i.toNat
    · subst e
      have hd' := hd ha a (by rw [List.take_of_length_le (by omega), hall]; exact haw) ht
      exact hd'
    · exact h.no ha j' (by omega) hb a haw ht
  | e + 1, k, j, out, again, j0, je, hk, h, hout, hd => by
    obtain ⟨m, rfl⟩ : ∃ m, k = m + 1 := ⟨k - 1, by omega⟩
    have hmem : rd all j ∈ all := rd_mem j0 (by omega)
    have hiw : i.toNat < l.length := by omega
    have hWa : W64 (rd all j) := wordsO_W hW hiw _ (by rw [← hall]; exact hmem)
    have hol := h.inv.len
    have e1 : (j + 1).toNat = j.toNat + 1 := by omega
    have e2 : rd all j = all[j.toNat]'(by omega) := by
      unfold rd
      rw [List.getD_eq_getElem?_getD, List.getElem?_eq_getElem (by omega)]
      rfl
    have etk : all.take (j + 1).toNat = all.take j.toNat ++ [rd all j] := by
      rw [e1, List.take_succ_eq_append_getElem (by omega), e2]
    simp only [monticuleref19_Reached.l3]
    rw [if_pos (by omega), if_pos j0, there18 hWa l.length hl, Option.bind_some, w64_next j0 (n := all.length) (by omega) (by omega)]
    cases ht : thereP l.length (rd all j) with
    | false =>
      rw [if_neg (show ¬ (false : Bool) = true by decide), if_neg (show ¬ (-1 : Int) ≥ 0 by decide)]
      refine r_l3 l roots hl hW u D i hi0 hi1 all hall hlen IH e m (j + 1) out again (by omega) (by omega) (by omega) h hout (fun ha a hat hta => ?_)
      rw [etk] at hat
      rcases List.mem_append.1 hat with hat | hat
      · exact hd ha a hat hta
      · obtain rfl := List.mem_singleton.1 hat
        rw [ht] at hta; cases hta
    | true =>
      have hlt := there_lt hWa ht
      have h0 : 0 ≤ rd all j / 2 := by unfold W64 at hWa; omega
      rw [if_pos rfl, if_pos h0, if_pos h0, if_pos (by omega), rdOf_eq]
      cases hs : out.getD (rd all j / 2).toNat false with
      | true =>
        rw [if_pos rfl]
        refine r_l3 l roots hl hW u D i hi0 hi1 all hall hlen IH e m (j + 1) out again (by omega) (by omega) (by omega) h hout (fun ha a hat hta => ?_)
        rw [etk] at hat
        rcases List.mem_append.1 hat with hat | hat
        · exact hd ha a hat hta
        · obtain rfl := List.mem_singleton.1 hat
          exact hs
      | false =>
        rw [if_neg (by decide)]
        have hu := uw_set l out (rd all j / 2).toNat hlt hol hs
        have hle := h.le
        refine r_l3 l roots hl hW u D i hi0 hi1 all hall hlen IH e m (j + 1) _ true (by omega) (by omega) (by omega) ⟨h.inv.mark _ (fun S hS => ?_), fun a ha hta => getD_set_mono out _ _ (by omega) (h.rts a ha hta), by omega, fun hf => (by cases hf), fun _ => by omega⟩ (getD_set_mono out _ _ (by omega) hout) (fun hf => by cases hf)
        exact hS.2 i.toNat hiw (h.inv.sound S hS i.toNat hiw hout) _ (by rw [← hall]; exact hmem) ht
theorem r_l2 (l : List S53) (roots : List Int) (hl : l.length ≤ 5000) (q : Nat) (hq : q ≤ 100000) (hs : ∀ x ∈ l, x.f1.length ≤ q) (hW : WordsL l) (u C : Nat)
    (IH : ∀ (m : Nat) (out : List Bool), C < m → RInv l roots out → RootsIn l roots out → uw l out < u → GoodR l roots (monticuleref19_Reached.l1 m l out true)) (hC : 1 ≤ C) :
    ∀ (d k : Nat) (i : Int) (out : List Bool) (again : Bool), 0 ≤ i → i + d = l.length → C + d * (q + 5) + 2 < k → RSt l roots u out again i.toNat → GoodR l roots (monticuleref19_Reached.l2 k l out again i)
  | 0, k, i, out, again, i0, ie, hk, h => by
    obtain ⟨m, rfl⟩ : ∃ m, k = m + 1 := ⟨k - 1, by omega⟩
    simp only [monticuleref19_Reached.l2]
    rw [if_neg (by omega)]
    cases again with
    | true => exact IH m out (by omega) h.inv h.rts (h.yes rfl)
    | false =>
      obtain ⟨m', rfl⟩ : ∃ m', m = m' + 1 := ⟨m - 1, by omega⟩
      simp only [monticuleref19_Reached.l1]
      rw [if_neg (by decide)]
      refine ⟨out, rfl, Marked.of h.inv.len h.inv.sound ⟨h.rts, fun j hj hb a ha ht => ?_⟩⟩
      exact h.no rfl j (by omega) hb a ha ht
  | d + 1, k, i, out, again, i0, ie, hk, h => by
    obtain ⟨m, rfl⟩ : ∃ m, k = m + 1 := ⟨k - 1, by omega⟩
    have hol := h.inv.len
    rw [Nat.add_mul] at hk
    have hiw : i.toNat < l.length := by omega
    have hmem : l.getD i.toNat z53 ∈ l := by rw [List.getD_eq_getElem?_getD, List.getElem?_eq_getElem hiw]; exact List.getElem_mem _
    have hx := hs _ hmem
    have e1 : (i + 1).toNat = i.toNat + 1 := by omega
    simp only [monticuleref19_Reached.l2]
    rw [if_pos (by omega), if_pos i0, if_pos (by omega), rdOf_eq]
    cases hb : out.getD i.toNat false with
    | false =>
      rw [if_neg (by decide), w64_next i0 (n := l.length) (by omega) (by omega)]
      refine r_l2 l roots hl q hq hs hW u C IH hC d m (i + 1) out again (by omega) (by omega) (by omega) ⟨h.inv, h.rts, h.le, fun ha => ?_, h.yes⟩
      intro j hj hbj a haw ht
      by_cases e : j = i.toNat
      · subst e; rw [hb] at hbj; cases hbj
      · exact h.no ha j (by omega) hbj a haw ht
    | true =>
      have hrt : rd_T53 l i = l.getD i.toNat z53 := rfl
      rw [if_pos rfl, Option.bind_some, hrt, if_pos (by rw [List.length_singleton]; omega)]
      refine r_l3 l roots hl hW u (C + d * (q + 5) + 2) i i0 (by omega) _ rfl (by show (_ :: _ : List Int).length ≤ _; rw [List.length_cons]; omega) (fun m' out' again' hm' h' => r_l2 l roots hl q hq hs hW u C IH hC d m' (i + 1) out' again' (by omega) (by omega) (by omega) h')
        (wordsO (l.getD i.toNat z53)).length m 0 out again (by omega) (by show (0 : Int) + _ = ((_ : List Int).length : Int); rw [Int.zero_add]) (by show _ + (_ :: _ : List Int).length + 1 < m; rw [List.length_cons]; omega) h hb (fun _ a ha => by simp at ha)
theorem r_l1 (l : List S53) (roots : List Int) (hl : l.length ≤ 5000) (q : Nat) (hq : q ≤ 100000) (hs : ∀ x ∈ l, x.f1.length ≤ q) (hW : WordsL l) (P : Nat) (hP : l.length * (q + 5) + 5 ≤ P) :
    ∀ (u k : Nat) (out : List Bool), uw l out ≤ u → (u + 1) * P < k → RInv l roots out → RootsIn l roots out → GoodR l roots (monticuleref19_Reached.l1 k l out true)
  | 0, k, out, hu, hk, hi, hr => by
    obtain ⟨m, rfl⟩ : ∃ m, k = m + 1 := ⟨k - 1, by omega⟩
    simp only [monticuleref19_Reached.l1]
    rw [if_pos trivial]
    exact r_l2 l roots hl q hq hs hW 0 1 (fun m' out' _ _ _ hlt => absurd hlt (by omega)) (Nat.le_refl _) l.length m 0 out false (by omega) (by omega) (by omega) ⟨hi, hr, hu, fun _ j hj => absurd hj (by omega), fun hf => by cases hf⟩
  | u + 1, k, out, hu, hk, hi, hr => by
    obtain ⟨m, rfl⟩ : ∃ m, k = m + 1 := ⟨k - 1, by omega⟩
    rw [Nat.add_mul] at hk
    have hk1 : 1 ≤ (u + 1) * P := by rw [Nat.add_mul]; omega
    simp only [monticuleref19_Reached.l1]
    rw [if_pos trivial]
    exact r_l2 l roots hl q hq hs hW (u + 1) ((u + 1) * P) (fun m' out' hm' hi' hr' hlt => r_l1 l roots hl q hq hs hW P hP u m' out' (by omega) hm' hi' hr') hk1 l.length m 0 out false (by omega) (by omega) (by omega) ⟨hi, hr, hu, fun _ j hj => absurd hj (by omega), fun hf => by cases hf⟩
theorem r_l0 (l : List S53) (roots : List Int) (hl : l.length ≤ 5000) (q : Nat) (hq : q ≤ 100000) (hs : ∀ x ∈ l, x.f1.length ≤ q) (hW : WordsL l) (hR : ∀ a ∈ roots, W64 a) (hrl : roots.length ≤ 100000) (hn : 0 < l.length) (P U : Nat) (hP : l.length * (q + 5) + 5 ≤ P) (hU : ∀ out, uw l out ≤ U) :
    ∀ (d k : Nat) (i : Int) (out : List Bool), 0 ≤ i → i + d = roots.length → (U + 1) * P + d + 1 < k → RInv l roots out → (∀ a ∈ (0 : Int) :: roots.take i.toNat, thereP l.length a = true → out.getD (a / 2).toNat false = true) → GoodR l roots (monticuleref19_Reached.l0 k l roots out i)
  | 0, k, i, out, i0, ie, hk, h, hd => by
    obtain ⟨m, rfl⟩ : ∃ m, k = m + 1 := ⟨k - 1, by omega⟩
    simp only [monticuleref19_Reached.l0]
    rw [if_neg (by omega)]
    rw [List.take_of_length_le (by omega)] at hd
    exact r_l1 l roots hl q hq hs hW P hP U m out (hU out) (by omega) h hd
  | d + 1, k, i, out, i0, ie, hk, h, hd => by
    obtain ⟨m, rfl⟩ : ∃ m, k = m + 1 := ⟨k - 1, by omega⟩
    have hmem : rd roots i ∈ roots := rd_mem i0 (by omega)
    have hWa := hR _ hmem
    have hol := h.len
    have e1 : (i + 1).toNat = i.toNat + 1 := by omega
    have e2 : rd roots i = roots[i.toNat]'(by omega) := by
      unfold rd
      rw [List.getD_eq_getElem?_getD, List.getElem?_eq_getElem (by omega)]
      rfl
    have etk : roots.take (i + 1).toNat = roots.take i.toNat ++ [rd roots i] := by
      rw [e1, List.take_succ_eq_append_getElem (by omega), e2]
    have hstep : ∀ out' : List Bool, (∀ j, out.getD j false = true → out'.getD j false = true) → (thereP l.length (rd roots i) = true → out'.getD (rd roots i / 2).toNat false = true) → ∀ a ∈ (0 : Int) :: roots.take (i + 1).toNat, thereP l.length a = true → out'.getD (a / 2).toNat false = true := by
      intro out' hmono hnew a ha hta
      rw [etk] at ha
      rcases List.mem_cons.1 ha with rfl | ha
      · exact hmono _ (hd _ (List.mem_cons_self ..) hta)
      · rcases List.mem_append.1 ha with ha | ha
        · exact hmono _ (hd a (List.mem_cons_of_mem _ ha) hta)
        · obtain rfl := List.mem_singleton.1 ha
          exact hnew hta
    simp only [monticuleref19_Reached.l0]
    rw [if_pos (by omega), if_pos i0, there18 hWa l.length hl, Option.bind_some, w64_next i0 (n := roots.length) (by omega) (by omega)]
    cases ht : thereP l.length (rd roots i) with
    | false =>
      rw [if_neg (show ¬ (false : Bool) = true by decide), if_neg (show ¬ (-1 : Int) ≥ 0 by decide)]
      exact r_l0 l roots hl q hq hs hW hR hrl hn P U hP hU d m (i + 1) out (by omega) (by omega) (by omega) h (hstep out (fun _ hj => hj) (fun hf => by rw [ht] at hf; cases hf))
    | true =>
      have hlt := there_lt hWa ht
      have h0 : 0 ≤ rd roots i / 2 := by unfold W64 at hWa; omega
      rw [if_pos rfl, if_pos h0, if_pos h0, if_pos (by omega)]
      exact r_l0 l roots hl q hq hs hW hR hrl hn P U hP hU d m (i + 1) _ (by omega) (by omega) (by omega) (h.mark _ (fun S hS => hS.1 _ (List.mem_cons_of_mem _ hmem) ht)) (hstep _ (fun j hj => getD_set_mono out _ _ (by omega) hj) (fun _ => getD_set_same out _ (by omega)))
theorem reached_val (l : List S53) (roots : List Int) (hl : l.length ≤ 40) (hs : ∀ x ∈ l, x.f1.length ≤ 60) (hr : roots.length ≤ 100) (hW : WordsL l) (hR : ∀ a ∈ roots, W64 a) (hn : 0 < l.length) (K : Nat) (hK : 7000000 ≤ K) : ∃ bs, monticuleref19_Reached.f K l roots = some bs ∧ Marked l roots bs := by
  have h2 : l.length * (60 + 1) ≤ 40 * 61 := Nat.mul_le_mul hl (Nat.le_refl _)
  have h3 : l.length * (60 + 5) ≤ 40 * 65 := Nat.mul_le_mul hl (Nat.le_refl _)
  unfold monticuleref19_Reached.f
  rw [if_pos (by omega), if_pos (by omega), Option.bind_some, if_neg (by omega), Int.toNat_natCast, if_pos (by rw [List.length_replicate]; omega)]
  have hz : thereP l.length 0 = true := by unfold thereP; exact decide_eq_true (by omega)
  have h0 : RInv l roots (List.replicate l.length false) := ⟨by rw [List.length_replicate], fun S hS i hi hb => by rw [uw_none l] at hb; cases hb⟩
  refine r_l0 l roots (by omega) 60 (by omega) hs hW hR (by omega) hn 2605 2440 (by omega) (fun out => Nat.le_trans (uw_le l out 60 hs) (by omega)) roots.length K 0 _ (by omega) (by omega) (by omega) (h0.mark 0 (fun S hS => hS.1 0 (List.mem_cons_self ..) hz)) (fun a ha hta => ?_)
  rcases List.mem_cons.1 ha with rfl | ha
  · exact getD_set_same _ _ (by rw [List.length_replicate]; omega)
  · simp at ha
end Go.Proofs.Ytiokegmpooildaa.Hp
