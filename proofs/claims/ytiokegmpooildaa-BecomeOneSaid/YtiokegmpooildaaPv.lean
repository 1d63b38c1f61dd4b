/- Right pairs, as the reference tells them; objects that change places. -/
import Derived.Test.YtiokegmpooildaaPu
namespace Go.Proofs.Ytiokegmpooildaa.Hp
open Go.RowKit Go.Proofs.YtiokegmpooildaaW.PrintWords Go.Proofs.YtiokegmpooildaaW.PrintLast Go.Proofs.YtiokegmpooildaaW.PrintMore Go.Proofs.Ytiokegmpooildaa.PAll
set_option linter.unusedVariables false
set_option linter.unusedSimpArgs false
/-! ### Right -/
def seenOf (pre : List Int) : Int → Bool := fun a => decide (a = 0 ∨ a ∈ pre)
theorem seenOf_nil : (fun k : Int => if k = 0 then true else false) = seenOf [] := by
  funext k
  unfold seenOf
  by_cases h : k = 0 <;> simp [h]
theorem seenOf_snoc (pre : List Int) (w : Int) : (fun k => if k = w then true else seenOf pre k) = seenOf (pre ++ [w]) := by
  funext k
  unfold seenOf
  by_cases h : k = w <;> simp [h]
theorem right_l2 (n : Nat) (all : List Int) (hN : all.length ≤ 1000) (i : Int) (hi : i < (all.length : Int)) : ∀ (e k : Nat) (j : Int), 0 ≤ j → j + e = i → e < k →
    monticuleref20_Right.l2 k n all i j = if rd all i ∈ (all.take i.toNat).drop j.toNat then some false else monticuleref20_Right.l1 (k - 1 - e) n all (i + 1)
  | 0, k, j, h0, hd, hk => by
    obtain ⟨m, rfl⟩ : ∃ m, k = m + 1 := ⟨k - 1, by omega⟩
    simp only [monticuleref20_Right.l2]
    rw [if_neg (by omega), List.drop_of_length_le (by rw [List.length_take]; omega), if_neg (by simp), w64_next (i := i) (n := all.length) (by omega) hi (by omega)]
    rfl
  | e + 1, k, j, h0, hd, hk => by
    obtain ⟨m, rfl⟩ : ∃ m, k = m + 1 := ⟨k - 1, by omega⟩
    simp only [monticuleref20_Right.l2]
    rw [if_pos (by omega), if_pos h0, if_pos (by omega), if_pos (by omega), if_pos hi]
    have hdr : (all.take i.toNat).drop j.toNat = rd all j :: (all.take i.toNat).drop (j + 1).toNat := by
      have e1 : (j + 1).toNat = j.toNat + 1 := by omega
      rw [e1, List.drop_eq_getElem_cons (by rw [List.length_take]; omega), List.getElem_take]
      unfold rd
      rw [List.getD_eq_getElem?_getD, List.getElem?_eq_getElem (by omega)]
      rfl
    rw [hdr]
    by_cases c : rd all j = rd all i
    · rw [if_pos c, if_pos (by rw [c]; exact List.mem_cons_self ..)]
    · rw [if_neg c, w64_next h0 (n := all.length) (by omega) (by omega), right_l2 n all hN i hi e m (j + 1) (by omega) (by omega) (by omega)]
      have e2 : (rd all i ∈ rd all j :: (all.take i.toNat).drop (j + 1).toNat) ↔ rd all i ∈ (all.take i.toNat).drop (j + 1).toNat := by
        rw [List.mem_cons]
        exact ⟨fun h => h.resolve_left (fun e => c e.symm), Or.inr⟩
      have e3 : m + 1 - 1 - (e + 1) = m - 1 - e := by omega
      simp only [e2, e3]
theorem right_l1 (n : Nat) (hn : n ≤ 5000) (all : List Int) (hN : all.length ≤ 1000) (hw : ∀ a ∈ all, W64 a) : ∀ (d k : Nat) (i : Int), 0 ≤ i → i + d = all.length → d * (all.length + 3) < k →
    monticuleref20_Right.l1 k n all i = some (rightL n (seenOf (all.take i.toNat)) (all.drop i.toNat))
  | 0, k, i, h0, hd, hk => by
    obtain ⟨m, rfl⟩ : ∃ m, k = m + 1 := ⟨k - 1, by omega⟩
    simp only [monticuleref20_Right.l1]
    rw [if_neg (by omega), List.drop_of_length_le (by omega)]
    rfl
  | d + 1, k, i, h0, hd, hk => by
    rw [Nat.succ_mul] at hk
    obtain ⟨m, rfl⟩ : ∃ m, k = m + 1 := ⟨k - 1, by omega⟩
    have hm : rd all i ∈ all := by
      unfold rd
      rw [List.getD_eq_getElem?_getD, List.getElem?_eq_getElem (by omega)]
      exact List.getElem_mem _
    have hW := hw _ hm
    simp only [monticuleref20_Right.l1]
    rw [if_pos (by omega), if_pos h0, there18 hW n hn, dropI all i h0 (by omega)]
    simp only [Option.bind_some]
    unfold W64 at hW
    by_cases ht : thereP n (rd all i) = true
    · rw [if_pos ht]
      have hte := thereP_in ht
      by_cases hz : rd all i = 0
      · rw [if_pos (by omega), rightL_no]
        unfold seenOf
        rw [decide_eq_true (Or.inl hz)]
        simp
      · rw [if_neg (by omega), right_l2 n all hN i (by omega) i.toNat m 0 (by omega) (by omega) (by omega)]
        have e0 : (all.take i.toNat).drop (0 : Int).toNat = all.take i.toNat := rfl
        rw [e0]
        by_cases hin : rd all i ∈ all.take i.toNat
        · rw [if_pos hin, rightL_no]
          unfold seenOf
          rw [decide_eq_true (Or.inr hin)]
          simp
        · rw [if_neg hin, right_l1 n hn all hN hw d (m - 1 - i.toNat) (i + 1) (by omega) (by omega) (by omega)]
          rw [rightL_yes (by unfold seenOf; rw [ht, decide_eq_false (by intro h; exact h.elim hz hin)]; rfl), seenOf_snoc]
          have et : all.take (i + 1).toNat = all.take i.toNat ++ [rd all i] := by
            have e1 : (i + 1).toNat = i.toNat + 1 := by omega
            rw [e1, List.take_succ_eq_append_getElem (by omega)]
            unfold rd
            rw [List.getD_eq_getElem?_getD, List.getElem?_eq_getElem (by omega)]
            rfl
          rw [et]
    · rw [if_neg ht, if_pos (by omega), rightL_no (by rw [Bool.eq_false_iff.2 ht]; rfl)]
theorem right_l0 (n : Nat) (hn : n ≤ 5000) (ps : List S38) (hp : ps.length ≤ 400) (hw : ∀ p ∈ ps, W64 p.f0 ∧ W64 p.f1) : ∀ (d k : Nat) (x : List Int) (i : Int), 0 ≤ i → i + d = ps.length → x ++ wordsOf (ps.drop i.toNat) = wordsOf ps → x.length = 2 * i.toNat →
    d + (wordsOf ps).length * ((wordsOf ps).length + 3) + 1 < k → monticuleref20_Right.l0 k n ps x i = some (rightP n ps)
  | 0, k, x, i, h0, hd, hx, hxl, hk => by
    obtain ⟨m, rfl⟩ : ∃ m, k = m + 1 := ⟨k - 1, by omega⟩
    have hall : ∀ a ∈ wordsOf ps, W64 a := by
      clear hx hxl hk hd hp
      induction ps with
      | nil => intro a ha; cases ha
      | cons p r ih =>
        intro a ha
        rw [wordsOf_cons] at ha
        rcases List.mem_cons.1 ha with rfl | ha
        · exact (hw p (List.mem_cons_self ..)).1
        rcases List.mem_cons.1 ha with rfl | ha
        · exact (hw p (List.mem_cons_self ..)).2
        exact ih (fun q hq => hw q (List.mem_cons_of_mem _ hq)) a ha
    rw [List.drop_of_length_le (by omega)] at hx
    have hx' : x = wordsOf ps := by simpa [wordsOf] using hx
    subst hx'
    simp only [monticuleref20_Right.l0]
    rw [if_neg (by omega), right_l1 n hn (wordsOf ps) (by omega) hall (wordsOf ps).length m 0 (by omega) (by omega) (by omega)]
    unfold rightP
    rw [seenOf_nil]
    rfl
  | d + 1, k, x, i, h0, hd, hx, hxl, hk => by
    obtain ⟨m, rfl⟩ : ∃ m, k = m + 1 := ⟨k - 1, by omega⟩
    simp only [monticuleref20_Right.l0]
    rw [if_pos (by omega), if_pos h0]
    simp only [Option.bind_some]
    rw [if_pos (by simp only [List.length_cons, List.length_nil]; omega), w64_next h0 (n := ps.length) (by omega) (by omega)]
    refine right_l0 n hn ps hp hw d m _ (i + 1) (by omega) (by omega) ?_ ?_ (by omega)
    · rw [drop38 ps i h0 (by omega), wordsOf_cons] at hx
      rw [List.append_assoc]
      exact hx
    · rw [List.length_append, hxl]
      simp only [List.length_cons, List.length_nil]
      omega
theorem wordsOf_length (ps : List S38) : (wordsOf ps).length = 2 * ps.length := by
  induction ps with
  | nil => rfl
  | cons p r ih => rw [wordsOf_cons]; simp only [List.length_cons, ih]; omega
theorem right_val (n : Nat) (hn : n ≤ 5000) (ps : List S38) (hp : ps.length ≤ 20) (hw : ∀ p ∈ ps, W64 p.f0 ∧ W64 p.f1) : monticuleref20_Right.f 3000 n ps = some (rightP n ps) := by
  unfold monticuleref20_Right.f
  have h2 : (wordsOf ps).length * ((wordsOf ps).length + 3) ≤ 40 * 43 := Nat.mul_le_mul (by rw [wordsOf_length]; omega) (by rw [wordsOf_length]; omega)
  exact right_l0 n hn ps (by omega) hw ps.length 3000 [] 0 (by omega) (by omega) rfl rfl (by omega)
/-! ### What is right -/
theorem rightL_iff {n : Nat} {s : Int → Bool} {L : List Int} : rightL n s L = true ↔ (∀ w ∈ L, thereP n w = true ∧ s w = false) ∧ L.Nodup := by
  induction L generalizing s with
  | nil => simp [rightL]
  | cons w r ih =>
    unfold rightL
    simp only [Bool.and_eq_true, ih, List.nodup_cons, List.mem_cons, Bool.not_eq_true']
    constructor
    · rintro ⟨⟨h1, h2⟩, h3, h4⟩
      refine ⟨fun a ha => ?_, ?_, h4⟩
      · rcases ha with rfl | ha
        · exact ⟨h1, h2⟩
        · have h5 := (h3 a ha).2
          by_cases e : a = w
          · rw [if_pos e] at h5; cases h5
          · rw [if_neg e] at h5; exact ⟨(h3 a ha).1, h5⟩
      · intro hw
        have h5 := (h3 w hw).2
        rw [if_pos rfl] at h5
        cases h5
    · rintro ⟨h1, h2, h3⟩
      refine ⟨h1 w (Or.inl rfl), fun a ha => ⟨(h1 a (Or.inr ha)).1, ?_⟩, h3⟩
      rw [if_neg (fun e : a = w => h2 (e ▸ ha))]
      exact (h1 a (Or.inr ha)).2
def flip38 (p : S38) : S38 := ⟨p.f1, p.f0⟩
theorem wordsOf_append (a b : List S38) : wordsOf (a ++ b) = wordsOf a ++ wordsOf b := by
  induction a with
  | nil => rfl
  | cons p r ih => rw [List.cons_append, wordsOf_cons, wordsOf_cons, ih]; rfl
theorem wordsOf_other (ps : List S38) : wordsOf (ps.reverse.map flip38) = (wordsOf ps).reverse := by
  induction ps with
  | nil => rfl
  | cons p r ih =>
    rw [List.reverse_cons, List.map_append, wordsOf_append, ih, wordsOf_cons]
    simp [wordsOf, flip38]
theorem rightP_other {n : Nat} {ps : List S38} (h : rightP n ps = true) : rightP n (ps.reverse.map flip38) = true := by
  unfold rightP at h ⊢
  rw [rightL_iff] at h ⊢
  rw [wordsOf_other]
  exact ⟨fun w hw => h.1 w (List.mem_reverse.1 hw), List.pairwise_reverse.2 (List.Pairwise.imp (fun h e => h e.symm) h.2)⟩
/-! ### Swaps -/
def sw (l : List S53) (a b : Nat) : List S53 := (l.set a (l.getD b z53)).set b (l.getD a z53)
theorem sw_length (l : List S53) (a b : Nat) : (sw l a b).length = l.length := by simp [sw]
theorem sw_get (l : List S53) (a b i : Nat) (ha : a < l.length) (hb : b < l.length) : (sw l a b)[i]? = if i = b then l[a]? else if i = a then l[b]? else l[i]? := by
  unfold sw
  rw [List.getElem?_set, List.getElem?_set, List.getD_eq_getElem?_getD, List.getD_eq_getElem?_getD, List.getElem?_eq_getElem ha, List.getElem?_eq_getElem hb, List.length_set]
  by_cases h1 : i = b
  · subst h1
    rw [if_pos rfl, if_pos hb, if_pos rfl]
    rfl
  · rw [if_neg (fun e => h1 e.symm), if_neg h1]
    by_cases h2 : i = a
    · subst h2
      rw [if_pos rfl, if_pos ha, if_pos rfl]
      rfl
    · rw [if_neg (fun e => h2 e.symm), if_neg h2]
theorem sw_sw (l : List S53) (a b : Nat) (ha : a < l.length) (hb : b < l.length) : sw (sw l a b) a b = l := by
  apply List.ext_getElem?
  intro i
  rw [sw_get _ a b i (by rw [sw_length]; exact ha) (by rw [sw_length]; exact hb), sw_get l a b a ha hb, sw_get l a b b ha hb, sw_get l a b i ha hb]
  by_cases h1 : i = b <;> by_cases h2 : i = a <;> by_cases h3 : a = b <;> simp_all
theorem sw_comm (l : List S53) (a b : Nat) (ha : a < l.length) (hb : b < l.length) : sw l b a = sw l a b := by
  apply List.ext_getElem?
  intro i
  rw [sw_get l a b i ha hb, sw_get l b a i hb ha]
  by_cases h1 : i = b <;> by_cases h2 : i = a <;> simp_all
theorem sw_apart (l : List S53) (a b c d : Nat) (ha : a < l.length) (hb : b < l.length) (hc : c < l.length) (hd : d < l.length) (h1 : a ≠ c) (h2 : a ≠ d) (h3 : b ≠ c) (h4 : b ≠ d) : sw (sw l a b) c d = sw (sw l c d) a b := by
  apply List.ext_getElem?
  intro i
  rw [sw_get (sw l a b) c d i (by rw [sw_length]; exact hc) (by rw [sw_length]; exact hd), sw_get (sw l c d) a b i (by rw [sw_length]; exact ha) (by rw [sw_length]; exact hb)]
  simp only [sw_get l a b _ ha hb, sw_get l c d _ hc hd]
  by_cases e1 : i = a <;> by_cases e2 : i = b <;> by_cases e3 : i = c <;> by_cases e4 : i = d <;> simp_all [Ne.symm h1, Ne.symm h2, Ne.symm h3, Ne.symm h4]
def ia (p : S38) : Nat := (p.f0 / 2).toNat
def ib (p : S38) : Nat := (p.f1 / 2).toNat
theorem swap2_sw (l : List S53) (p : S38) : swap2 l p = sw l (ia p) (ib p) := rfl
/-- Pairs of places in a list, no place twice. -/
def Apart (n : Nat) (ps : List S38) : Prop := (∀ p ∈ ps, ia p < n ∧ ib p < n) ∧ ps.Pairwise fun p q => ia p ≠ ia q ∧ ia p ≠ ib q ∧ ib p ≠ ia q ∧ ib p ≠ ib q
theorem swapN_cons (l : List S53) (p : S38) (r : List S38) : swapN l (p :: r) = swapN (swap2 l p) r := rfl
theorem swapN_append (l : List S53) (a b : List S38) : swapN l (a ++ b) = swapN (swapN l a) b := List.foldl_append ..
theorem swapN_out {l : List S53} {p : S38} {r : List S38} (h : Apart l.length (p :: r)) : swapN (swap2 l p) r = swap2 (swapN l r) p := by
  induction r generalizing l with
  | nil => rfl
  | cons q r ih =>
    obtain ⟨h1, h2⟩ := h
    rw [List.pairwise_cons] at h2
    have hp := h1 p (List.mem_cons_self ..)
    have hq := h1 q (List.mem_cons_of_mem _ (List.mem_cons_self ..))
    have hpq := h2.1 q (List.mem_cons_self ..)
    rw [swapN_cons, swapN_cons]
    have e : swap2 (swap2 l p) q = swap2 (swap2 l q) p := by
      simp only [swap2_sw]
      exact sw_apart l _ _ _ _ hp.1 hp.2 hq.1 hq.2 hpq.1 hpq.2.1 hpq.2.2.1 hpq.2.2.2
    rw [e]
    refine ih ⟨fun x hx => ?_, List.pairwise_cons.2 ⟨fun x hx => h2.1 x (List.mem_cons_of_mem _ hx), (List.pairwise_cons.1 h2.2).2⟩⟩
    have el : (swap2 l q).length = l.length := sw_length _ _ _
    rw [el]
    rcases List.mem_cons.1 hx with rfl | hx
    · exact hp
    · exact h1 x (List.mem_cons_of_mem _ (List.mem_cons_of_mem _ hx))
theorem Apart.tail {n : Nat} {p : S38} {r : List S38} (h : Apart n (p :: r)) : Apart n r := ⟨fun x hx => h.1 x (List.mem_cons_of_mem _ hx), (List.pairwise_cons.1 h.2).2⟩
theorem swapN_twice {l : List S53} {ps : List S38} (h : Apart l.length ps) : swapN (swapN l ps) ps = l := by
  induction ps generalizing l with
  | nil => rfl
  | cons p r ih =>
    have hp := h.1 p (List.mem_cons_self ..)
    have el : (swap2 l p).length = l.length := sw_length _ _ _
    have h' : Apart (swapN (swap2 l p) r).length (p :: r) := by rw [swapN_length, el]; exact h
    rw [swapN_cons, swapN_cons, swapN_out h', ih (by rw [el]; exact h.tail)]
    exact sw_sw l _ _ hp.1 hp.2
theorem swapN_back {l : List S53} {ps : List S38} (h : Apart l.length ps) : swapN (swapN l ps) (ps.reverse.map flip38) = l := by
  induction ps generalizing l with
  | nil => rfl
  | cons p r ih =>
    have hp := h.1 p (List.mem_cons_self ..)
    have el : (swap2 l p).length = l.length := sw_length _ _ _
    rw [swapN_cons, List.reverse_cons, List.map_append, swapN_append, ih (by rw [el]; exact h.tail)]
    show swap2 (swap2 l p) (flip38 p) = l
    have e : swap2 (swap2 l p) (flip38 p) = sw (sw l (ia p) (ib p)) (ib p) (ia p) := rfl
    rw [e, sw_comm _ _ _ (by rw [sw_length]; exact hp.1) (by rw [sw_length]; exact hp.2)]
    exact sw_sw l _ _ hp.1 hp.2
theorem rightP_apart {n : Nat} {ps : List S38} (h : rightP n ps = true) (hw : ∀ p ∈ ps, W64 p.f0 ∧ W64 p.f1) : Apart n ps := by
  have hin := rightP_in h hw
  unfold rightP at h
  have h2 := (rightL_iff.1 h)
  refine ⟨fun p hp => ?_, ?_⟩
  · have := hin p hp
    unfold ia ib
    omega
  · have hnd := h2.2
    have hth := h2.1
    clear h h2 hin
    induction ps with
    | nil => exact List.Pairwise.nil
    | cons p r ih =>
      rw [wordsOf_cons] at hnd hth
      rw [List.nodup_cons, List.nodup_cons] at hnd
      refine List.pairwise_cons.2 ⟨fun q hq => ?_, ih (fun q hq => hw q (List.mem_cons_of_mem _ hq)) hnd.2.2 (fun w hw2 => hth w (List.mem_cons_of_mem _ (List.mem_cons_of_mem _ hw2)))⟩
      have hqw := wordsOf_mem hq
      have t0 := thereP_in (hth p.f0 (List.mem_cons_self ..)).1
      have t1 := thereP_in (hth p.f1 (List.mem_cons_of_mem _ (List.mem_cons_self ..))).1
      have t2 := thereP_in (hth q.f0 (List.mem_cons_of_mem _ (List.mem_cons_of_mem _ hqw.1))).1
      have t3 := thereP_in (hth q.f1 (List.mem_cons_of_mem _ (List.mem_cons_of_mem _ hqw.2))).1
      have w0 := hw p (List.mem_cons_self ..)
      have w1 := hw q (List.mem_cons_of_mem _ hq)
      have n0 : p.f0 ≠ q.f0 := fun e => hnd.1 (List.mem_cons_of_mem _ (e ▸ hqw.1))
      have n1 : p.f0 ≠ q.f1 := fun e => hnd.1 (List.mem_cons_of_mem _ (e ▸ hqw.2))
      have n2 : p.f1 ≠ q.f0 := fun e => hnd.2.1 (e ▸ hqw.1)
      have n3 : p.f1 ≠ q.f1 := fun e => hnd.2.1 (e ▸ hqw.2)
      unfold W64 at w0 w1
      unfold ia ib
      omega
end Go.Proofs.Ytiokegmpooildaa.Hp
