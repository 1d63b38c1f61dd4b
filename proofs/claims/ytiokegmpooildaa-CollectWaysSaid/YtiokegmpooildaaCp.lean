/- What is reached; collect's marks are just that. -/
import Derived.Test.YtiokegmpooildaaHr
import Derived.Test.YtiokegmpooildaaPu
import Derived.Test.YtiokegmpooildaaPAllx4
namespace Go.Proofs.Ytiokegmpooildaa.Hp
open Go.RowKit Go.Proofs.YtiokegmpooildaaW.PrintWords Go.Proofs.YtiokegmpooildaaW.PrintLast Go.Proofs.YtiokegmpooildaaW.PrintMore Go.Proofs.Ytiokegmpooildaa.PAll
set_option linter.unusedVariables false
set_option linter.unusedSimpArgs false
/-- An object's words. -/
def wordsO (x : S53) : List Int := x.f0 :: x.f1
/-- A set of objects that holds nil and the roots, and what its own objects refer to. -/
def ClosedS (l : List S53) (roots : List Int) (S : Nat → Prop) : Prop :=
  (∀ a ∈ (0 : Int) :: roots, thereP l.length a = true → S (a / 2).toNat) ∧ (∀ i, i < l.length → S i → ∀ a ∈ wordsO (l.getD i z53), thereP l.length a = true → S (a / 2).toNat)
/-- An object that is reached: it is in each such set. -/
def Rch (l : List S53) (roots : List Int) (i : Nat) : Prop := ∀ S, ClosedS l roots S → S i
/-- Marks that say of each object whether it is reached. -/
def Marked (l : List S53) (roots : List Int) (bs : List Bool) : Prop := bs.length = l.length ∧ ∀ i, i < l.length → (bs.getD i false = true ↔ Rch l roots i)
theorem Marked.unique {l : List S53} {roots : List Int} {bs cs : List Bool} (h1 : Marked l roots bs) (h2 : Marked l roots cs) : bs = cs := by
  refine List.ext_getElem (h1.1.trans h2.1.symm) (fun i hi hi' => ?_)
  have hl : i < l.length := by rw [← h1.1]; exact hi
  have e1 : bs.getD i false = bs[i] := by rw [List.getD_eq_getElem?_getD, List.getElem?_eq_getElem hi]; rfl
  have e2 : cs.getD i false = cs[i] := by rw [List.getD_eq_getElem?_getD, List.getElem?_eq_getElem hi']; rfl
  have h := (h1.2 i hl).trans (h2.2 i hl).symm
  rw [e1, e2] at h
  cases hb : bs[i] <;> cases hc : cs[i] <;> rw [hb, hc] at h <;> simp at h <;> rfl
theorem Marked.of {l : List S53} {roots : List Int} {bs : List Bool} (hl : bs.length = l.length) (h1 : ∀ S, ClosedS l roots S → ∀ i, i < l.length → bs.getD i false = true → S i) (h2 : ClosedS l roots (fun i => bs.getD i false = true)) : Marked l roots bs :=
  ⟨hl, fun i hi => ⟨fun hb S hS => h1 S hS i hi hb, fun hr => hr _ h2⟩⟩
theorem there_lt {n : Nat} {a : Int} (ha : W64 a) (h : thereP n a = true) : (a / 2).toNat < n := by
  have := thereP_in h
  unfold W64 at ha
  omega
theorem Marked.closed {l : List S53} {roots : List Int} {bs : List Bool} (h : Marked l roots bs) (hw : WordsL l) (hr : ∀ a ∈ roots, W64 a) : ClosedS l roots (fun i => bs.getD i false = true) := by
  refine ⟨fun a ha ht => ?_, fun i hi hb a ha ht => ?_⟩
  · have hW : W64 a := by
      rcases List.mem_cons.1 ha with rfl | ha
      · unfold W64; omega
      · exact hr a ha
    exact (h.2 _ (there_lt hW ht)).2 (fun S hS => hS.1 a ha ht)
  · have hW : W64 a := by
      have := hw (l.getD i z53) (by rw [List.getD_eq_getElem?_getD, List.getElem?_eq_getElem hi]; exact List.getElem_mem _)
      rcases List.mem_cons.1 ha with rfl | ha
      · exact this.1
      · exact this.2 a ha
    exact (h.2 _ (there_lt hW ht)).2 (fun S hS => hS.2 i hi ((h.2 i hi).1 hb S hS) a ha ht)
/-! ### collect.marks -/
/-- The words of the objects that are not marked, and one for each. -/
def uw : List S53 → List Bool → Nat
  | x :: l, b :: s => (if b = true then 0 else 1 + x.f1.length) + uw l s
  | _, _ => 0
theorem uw_set : ∀ (l : List S53) (s : List Bool) (i : Nat), i < l.length → s.length = l.length → s.getD i false = false → uw l (s.set i true) + (1 + (l.getD i z53).f1.length) = uw l s
  | [], s, i, hi, hs, hb => by simp at hi
  | x :: l, [], i, hi, hs, hb => by simp at hs
  | x :: l, b :: s, 0, hi, hs, hb => by
    have hb' : b = false := hb
    subst hb'
    rw [List.set_cons_zero]
    show (if true = true then 0 else 1 + x.f1.length) + uw l s + (1 + x.f1.length) = (if false = true then 0 else 1 + x.f1.length) + uw l s
    rw [if_pos rfl, if_neg (by decide)]
    omega
  | x :: l, b :: s, i + 1, hi, hs, hb => by
    have ih := uw_set l s i (by simpa using hi) (by simpa using hs) hb
    rw [List.set_cons_succ]
    show (if b = true then 0 else 1 + x.f1.length) + uw l (s.set i true) + (1 + (l.getD i z53).f1.length) = (if b = true then 0 else 1 + x.f1.length) + uw l s
    omega
theorem uw_le : ∀ (l : List S53) (s : List Bool) (q : Nat), (∀ x ∈ l, x.f1.length ≤ q) → uw l s ≤ l.length * (q + 1)
  | [], s, q, h => by simp [uw]
  | x :: l, [], q, h => by simp [uw]
  | x :: l, b :: s, q, h => by
    have ih := uw_le l s q (fun y hy => h y (List.mem_cons_of_mem _ hy))
    have hx := h x (List.mem_cons_self ..)
    rw [List.length_cons, Nat.add_mul]
    show (if b = true then 0 else 1 + x.f1.length) + uw l s ≤ _
    cases b with
    | true => rw [if_pos rfl]; omega
    | false => rw [if_neg (by decide)]; omega
structure MarkInv (l : List S53) (roots : List Int) (seen : List Bool) (todo : List Int) : Prop where
  len : seen.length = l.length
  word : ∀ a ∈ todo, W64 a
  sound : ∀ S, ClosedS l roots S → (∀ i, i < l.length → seen.getD i false = true → S i) ∧ ∀ a ∈ todo, thereP l.length a = true → S (a / 2).toNat
  root : ∀ a ∈ (0 : Int) :: roots, thereP l.length a = true → seen.getD (a / 2).toNat false = true ∨ a ∈ todo
  step : ∀ i, i < l.length → seen.getD i false = true → ∀ a ∈ wordsO (l.getD i z53), thereP l.length a = true → seen.getD (a / 2).toNat false = true ∨ a ∈ todo
theorem getD_set_same (s : List Bool) (i : Nat) (h : i < s.length) : (s.set i true).getD i false = true := by
  rw [List.getD_eq_getElem?_getD, List.getElem?_set_self h]
  rfl
theorem getD_set_other (s : List Bool) (i j : Nat) (h : i ≠ j) : (s.set i true).getD j false = s.getD j false := by
  rw [List.getD_eq_getElem?_getD, List.getElem?_set_ne h, ← List.getD_eq_getElem?_getD]
theorem getD_set_mono (s : List Bool) (i j : Nat) (hi : i < s.length) (h : s.getD j false = true) : (s.set i true).getD j false = true := by
  by_cases e : i = j
  · subst e; exact getD_set_same s i hi
  · rw [getD_set_other s i j e]; exact h
theorem MarkInv.drop {l : List S53} {roots : List Int} {seen : List Bool} {todo : List Int} {w : Int} (h : MarkInv l roots seen (todo ++ [w])) (hw : thereP l.length w = true → seen.getD (w / 2).toNat false = true) : MarkInv l roots seen todo := by
  refine ⟨h.len, fun a ha => h.word a (List.mem_append_left _ ha), fun S hS => ⟨(h.sound S hS).1, fun a ha => (h.sound S hS).2 a (List.mem_append_left _ ha)⟩, fun a ha ht => ?_, fun i hi hb a ha ht => ?_⟩
  · rcases h.root a ha ht with h1 | h1
    · exact Or.inl h1
    · rcases List.mem_append.1 h1 with h1 | h1
      · exact Or.inr h1
      · obtain rfl := List.mem_singleton.1 h1
        exact Or.inl (hw ht)
  · rcases h.step i hi hb a ha ht with h1 | h1
    · exact Or.inl h1
    · rcases List.mem_append.1 h1 with h1 | h1
      · exact Or.inr h1
      · obtain rfl := List.mem_singleton.1 h1
        exact Or.inl (hw ht)
theorem MarkInv.visit {l : List S53} {roots : List Int} {seen : List Bool} {todo : List Int} {w : Int} (h : MarkInv l roots seen (todo ++ [w])) (hW : WordsL l) (ht : thereP l.length w = true) :
    MarkInv l roots (seen.set (w / 2).toNat true) ((todo ++ [(l.getD (w / 2).toNat z53).f0]) ++ (l.getD (w / 2).toNat z53).f1) := by
  have hww := h.word w (List.mem_append_right _ (List.mem_singleton.2 rfl))
  have hlt := there_lt hww ht
  have hsl : (w / 2).toNat < seen.length := by rw [h.len]; exact hlt
  have hmem : l.getD (w / 2).toNat z53 ∈ l := by rw [List.getD_eq_getElem?_getD, List.getElem?_eq_getElem hlt]; exact List.getElem_mem _
  obtain ⟨x, hx⟩ : ∃ x, x = l.getD (w / 2).toNat z53 := ⟨_, rfl⟩
  rw [← hx] at hmem ⊢
  have hm : ∀ a, a ∈ (todo ++ [x.f0]) ++ x.f1 ↔ a ∈ todo ∨ a ∈ wordsO x := by
    intro a
    simp [wordsO, or_assoc]
  have hxw := hW x hmem
  refine ⟨by rw [List.length_set]; exact h.len, fun a ha => ?_, fun S hS => ⟨fun i hi hb => ?_, fun a ha hta => ?_⟩, fun a ha hta => ?_, fun i hi hb a ha hta => ?_⟩
  · rcases (hm a).1 ha with h1 | h1
    · exact h.word a (List.mem_append_left _ h1)
    · rcases List.mem_cons.1 h1 with rfl | h1
      · exact hxw.1
      · exact hxw.2 a h1
  · by_cases e : (w / 2).toNat = i
    · subst e
      exact (h.sound S hS).2 w (List.mem_append_right _ (List.mem_singleton.2 rfl)) ht
    · rw [getD_set_other seen _ i e] at hb
      exact (h.sound S hS).1 i hi hb
  · rcases (hm a).1 ha with h1 | h1
    · exact (h.sound S hS).2 a (List.mem_append_left _ h1) hta
    · exact hS.2 _ hlt ((h.sound S hS).2 w (List.mem_append_right _ (List.mem_singleton.2 rfl)) ht) a (by rw [← hx]; exact h1) hta
  · rcases h.root a ha hta with h1 | h1
    · exact Or.inl (getD_set_mono seen _ _ hsl h1)
    · rcases List.mem_append.1 h1 with h1 | h1
      · exact Or.inr ((hm a).2 (Or.inl h1))
      · obtain rfl := List.mem_singleton.1 h1
        exact Or.inl (getD_set_same seen _ hsl)
  · by_cases e : (w / 2).toNat = i
    · subst e
      exact Or.inr ((hm a).2 (Or.inr (by rw [hx]; exact ha)))
    · rw [getD_set_other seen _ i e] at hb
      rcases h.step i hi hb a ha hta with h1 | h1
      · exact Or.inl (getD_set_mono seen _ _ hsl h1)
      · rcases List.mem_append.1 h1 with h1 | h1
        · exact Or.inr ((hm a).2 (Or.inl h1))
        · obtain rfl := List.mem_singleton.1 h1
          exact Or.inl (getD_set_same seen _ hsl)
theorem marks_l0 (l : List S53) (roots : List Int) (hl : l.length ≤ 5000) (hs : ∀ x ∈ l, x.f1.length ≤ 100000) (hW : WordsL l) : ∀ (k : Nat) (seen : List Bool) (todo : List Int), MarkInv l roots seen todo → todo.length + uw l seen < k → todo.length + uw l seen ≤ 1000000000 → ∃ bs, collect_marks.l0 k l seen todo = some bs ∧ Marked l roots bs
  | 0, seen, todo, h, hk, hb => absurd hk (by omega)
  | k + 1, seen, todo, h, hk, hb => by
    rcases List.eq_nil_or_concat todo with rfl | ⟨td, w, rfl⟩
    · refine ⟨seen, ?_, Marked.of h.len (fun S hS => (h.sound S hS).1) ⟨fun a ha ht => ?_, fun i hi hb a ha ht => ?_⟩⟩
      · simp only [collect_marks.l0]
        rw [if_neg (by simp)]
      · rcases h.root a ha ht with h1 | h1
        · exact h1
        · cases h1
      · rcases h.step i hi hb a ha ht with h1 | h1
        · exact h1
        · cases h1
    · rw [List.concat_eq_append] at *
      have hww := h.word w (List.mem_append_right _ (List.mem_singleton.2 rfl))
      obtain ⟨i, ok, hi, hth, hix, hi0⟩ := index_tells hww l.length hl
      have hlen : ((td ++ [w]).length : Int) = td.length + 1 := by rw [List.length_append]; rfl
      have hln : (td ++ [w]).length = td.length + 1 := by rw [List.length_append]; rfl
      rw [hln] at hk hb
      have hw1 : wrap64 (((td ++ [w]).length : Int) - 1) = td.length := by rw [hlen]; unfold wrap64; omega
      have hrd : rd (td ++ [w]) (td.length : Int) = w := by
        unfold rd
        rw [List.getD_eq_getElem?_getD, Int.toNat_natCast, List.getElem?_append_right (Nat.le_refl _), Nat.sub_self]
        rfl
      have htk : (td ++ [w]).take ((td.length : Int)).toNat = td := by rw [Int.toNat_natCast, List.take_left]
      simp only [collect_marks.l0]
      rw [hw1, hlen, if_pos (by omega), if_pos (by omega), if_pos (by omega), if_pos (by omega), Option.bind_some, hrd, hi, Option.bind_some, htk]
      dsimp only
      cases ok with
      | false =>
        have hno : thereP l.length w = false := by rw [← hth]; rfl
        rw [if_neg (by decide)]
        exact marks_l0 l roots hl hs hW k seen td (h.drop (fun ht => by rw [hno] at ht; cases ht)) (by omega) (by omega)
      | true =>
        rw [if_pos rfl]
        by_cases hge : i ≥ (l.length : Int)
        · have hno : thereP l.length w = false := by rw [← hth, Bool.true_and]; exact decide_eq_false (by omega)
          rw [if_pos hge]
          exact marks_l0 l roots hl hs hW k seen td (h.drop (fun ht => by rw [hno] at ht; cases ht)) (by omega) (by omega)
        · have hyes : thereP l.length w = true := by rw [← hth, Bool.true_and]; exact decide_eq_true (by omega)
          obtain rfl := hix hyes
          have hsl := h.len
          have hlt := there_lt hww hyes
          rw [if_neg hge, if_pos hi0, if_pos (by omega)]
          have hro : rdOf false seen (w / 2) = seen.getD (w / 2).toNat false := rfl
          rw [hro]
          cases hsn : seen.getD (w / 2).toNat false with
          | true =>
            rw [if_pos rfl]
            exact marks_l0 l roots hl hs hW k seen td (h.drop (fun _ => hsn)) (by omega) (by omega)
          | false =>
            have hv := h.visit hW hyes
            have hu := uw_set l seen (w / 2).toNat hlt hsl hsn
            have hmem : l.getD (w / 2).toNat z53 ∈ l := by rw [List.getD_eq_getElem?_getD, List.getElem?_eq_getElem hlt]; exact List.getElem_mem _
            have hq := hs _ hmem
            have hrt : rd_T53 l (w / 2) = l.getD (w / 2).toNat z53 := rfl
            rw [hrt, if_neg (by decide), if_pos (by omega), if_pos (by omega), Option.bind_some, if_pos (by rw [List.length_append, List.length_singleton]; omega)]
            refine marks_l0 l roots hl hs hW k _ _ hv ?_ ?_
            · rw [List.length_append, List.length_append, List.length_singleton]; omega
            · rw [List.length_append, List.length_append, List.length_singleton]; omega
theorem uw_none (l : List S53) : ∀ (n : Nat), ∀ i, (List.replicate n false).getD i false = false := by
  intro n i
  rw [List.getD_eq_getElem?_getD, List.getElem?_replicate]
  by_cases h : i < n
  · rw [if_pos h]; rfl
  · rw [if_neg h]; rfl
theorem marks_val (l : List S53) (roots : List Int) (hl : l.length ≤ 40) (hs : ∀ x ∈ l, x.f1.length ≤ 60) (hr : roots.length ≤ 100) (hW : WordsL l) (hR : ∀ a ∈ roots, W64 a) : ∃ bs, collect_marks.f 10000 l roots = some bs ∧ Marked l roots bs := by
  have hu := uw_le l (List.replicate l.length false) 60 hs
  have h2 : l.length * (60 + 1) ≤ 40 * 61 := Nat.mul_le_mul hl (Nat.le_refl _)
  unfold collect_marks.f
  rw [if_pos (by omega), if_pos (by omega), Option.bind_some, if_pos (by rw [List.length_singleton]; omega), Int.toNat_natCast]
  refine marks_l0 l roots (by omega) (fun x hx => by have := hs x hx; omega) hW 10000 _ _ ⟨by rw [List.length_replicate], fun a ha => ?_, fun S hS => ⟨fun i hi hb => ?_, fun a ha ht => hS.1 a ha ht⟩, fun a ha ht => Or.inr ha, fun i hi hb => ?_⟩ ?_ ?_
  · rcases List.mem_cons.1 ha with rfl | ha
    · unfold W64; omega
    · exact hR a ha
  · rw [uw_none l] at hb; cases hb
  · rw [uw_none l] at hb; cases hb
  · rw [List.length_append, List.length_singleton]; omega
  · rw [List.length_append, List.length_singleton]; omega
end Go.Proofs.Ytiokegmpooildaa.Hp
