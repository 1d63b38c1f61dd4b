/- The reference's One, of right pairs; what the turned objects are. -/
import Derived.Test.YtiokegmpooildaaOn
import Derived.Test.YtiokegmpooildaaPv
import Derived.Test.YtiokegmpooildaaPw
import Derived.Test.YtiokegmpooildaaPAllx8
namespace Go.Proofs.Ytiokegmpooildaa.Hp
open Go.RowKit Go.Proofs.YtiokegmpooildaaW.PrintWords Go.Proofs.YtiokegmpooildaaW.PrintLast Go.Proofs.YtiokegmpooildaaW.PrintMore Go.Proofs.Ytiokegmpooildaa.PAll
set_option linter.unusedVariables false
set_option linter.unusedSimpArgs false
def firstP : List S38 → Int → Option Int
  | [], _ => none
  | p :: r, k => if p.f0 = k then some p.f1 else firstP r k
theorem firstP_cons (p : S38) (r : List S38) (k : Int) : firstP (p :: r) k = if p.f0 = k then some p.f1 else firstP r k := rfl
theorem firstP_none {ps : List S38} {k : Int} (h : ∀ p ∈ ps, p.f0 ≠ k) : firstP ps k = none := by
  induction ps with
  | nil => rfl
  | cons p r ih =>
    unfold firstP
    rw [if_neg (h p (List.mem_cons_self ..))]
    exact ih (fun q hq => h q (List.mem_cons_of_mem _ hq))
theorem firstP_some {ps : List S38} {k t : Int} (h : firstP ps k = some t) : ∃ p ∈ ps, p.f0 = k ∧ p.f1 = t := by
  induction ps with
  | nil => cases h
  | cons p r ih =>
    unfold firstP at h
    by_cases e : p.f0 = k
    · rw [if_pos e] at h
      exact ⟨p, List.mem_cons_self .., e, Option.some.inj h⟩
    · rw [if_neg e] at h
      obtain ⟨q, hq, h1⟩ := ih h
      exact ⟨q, List.mem_cons_of_mem _ hq, h1⟩
theorem firstP_mem {ps : List S38} {p : S38} (h : p ∈ ps) : firstP ps p.f0 ≠ none := by
  induction ps with
  | nil => cases h
  | cons q r ih =>
    unfold firstP
    by_cases e : q.f0 = p.f0
    · rw [if_pos e]; exact Option.some_ne_none _
    · rw [if_neg e]
      rcases List.mem_cons.1 h with rfl | h
      · exact absurd rfl e
      · exact ih h
theorem fold_first : ∀ (ps : List S38) (m0 : Int → Option Int) (k : Int), (wordsOf ps).Nodup → (ps.foldl (fun m p k => if k = p.f0 then some p.f1 else m k) m0) k = (firstP ps k).or (m0 k)
  | [], m0, k, _ => rfl
  | p :: r, m0, k, h => by
    rw [wordsOf_cons, List.nodup_cons, List.nodup_cons] at h
    rw [List.foldl_cons, fold_first r _ k h.2.2]
    by_cases e : k = p.f0
    · have hn : firstP r k = none := firstP_none (fun q hq e2 => h.1 (by rw [← e, ← e2]; exact List.mem_cons_of_mem _ (wordsOf_mem hq).1))
      rw [firstP_cons, hn, if_pos e, if_pos e.symm]
      rfl
    · rw [firstP_cons, if_neg e, if_neg (fun e2 => e e2.symm)]
theorem mapP_first {n : Nat} {ps : List S38} (h : rightP n ps = true) (k : Int) : mapP ps k = firstP ps k := by
  unfold rightP at h
  rw [rightL_iff] at h
  unfold mapP
  rw [fold_first ps _ k h.2]
  cases firstP ps k <;> rfl
theorem turn_l0 (w : Int) (ps : List S38) (hp : ps.length ≤ 100000) : ∀ (d k : Nat) (i : Int), 0 ≤ i → i + d = ps.length → d < k → monticuleref20_turn.l0 k w ps i = some ((firstP (ps.drop i.toNat) w).getD w)
  | 0, k, i, h0, hd, hk => by
    obtain ⟨m, rfl⟩ : ∃ m, k = m + 1 := ⟨k - 1, by omega⟩
    simp only [monticuleref20_turn.l0]
    rw [if_neg (by omega), List.drop_of_length_le (by omega)]
    rfl
  | d + 1, k, i, h0, hd, hk => by
    obtain ⟨m, rfl⟩ : ∃ m, k = m + 1 := ⟨k - 1, by omega⟩
    simp only [monticuleref20_turn.l0]
    rw [if_pos (by omega), if_pos h0, drop38 ps i h0 (by omega), w64_next h0 (n := ps.length) (by omega) (by omega)]
    unfold firstP
    by_cases e : (rd_T38 ps i).f0 = w
    · rw [if_pos e, if_pos e]
      rfl
    · rw [if_neg e, if_neg e]
      exact turn_l0 w ps hp d m (i + 1) (by omega) (by omega) (by omega)
theorem turn_val {n : Nat} {ps : List S38} (h : rightP n ps = true) (hp : ps.length ≤ 100000) (w : Int) (k : Nat) (hk : ps.length < k) : monticuleref20_turn.f k w ps = some (turn1 (mapP ps) w) := by
  unfold monticuleref20_turn.f turn1
  rw [turn_l0 w ps hp ps.length k 0 (by omega) (by omega) hk, mapP_first h]
  rfl
theorem one_o1 {n : Nat} {ps : List S38} (h : rightP n ps = true) (hp : ps.length ≤ 100) (l : List S53) (q : Nat) (hl : l.length ≤ 5000) (hq : q ≤ 100) (D : Nat) (i : Int) (out : List S53) (h0 : 0 ≤ i) (hd : i < (l.length : Int)) (ho : out = (l.take i.toNat).map (turnO (mapP ps)))
    (IH : ∀ (m : Nat) (o2 : List S53), D < m → o2 = (l.take (i + 1).toNat).map (turnO (mapP ps)) → monticuleref20_One.l0 m l ps o2 (i + 1) = some (l.map (turnO (mapP ps)))) (hD : 200 ≤ D)
    (x : S53) (ex : x = rd_T53 l i) (hxq : x.f1.length ≤ q) : ∀ (e k : Nat) (j : Int) (f : List Int), 0 ≤ j → j + e = x.f1.length → D + e + 1 < k → f = turnS (mapP ps) x.f1 j.toNat → monticuleref20_One.l1 k l ps out i j (turn1 (mapP ps) x.f0) f x.f2 = some (l.map (turnO (mapP ps)))
  | 0, k, j, f, j0, je, hk, hf => by
    obtain ⟨m, rfl⟩ : ∃ m, k = m + 1 := ⟨k - 1, by omega⟩
    have hfl : f.length = x.f1.length := by rw [hf]; exact turnS_length _ _ _
    simp only [monticuleref20_One.l1]
    rw [if_neg (by omega), if_pos (by rw [ho, List.length_map, List.length_take]; omega), w64_next h0 (n := l.length) (by omega) (by omega)]
    refine IH m _ (by omega) ?_
    have e1 : (i + 1).toNat = i.toNat + 1 := by omega
    rw [e1, List.take_succ_eq_append_getElem (by omega), List.map_append, ho]
    congr 1
    have e2 : l[i.toNat] = x := by
      rw [ex]
      unfold rd_T53
      rw [List.getD_eq_getElem?_getD, List.getElem?_eq_getElem (by omega)]
      rfl
    rw [e2, hf]
    unfold turnO turnS
    rw [List.take_of_length_le (by omega), List.drop_of_length_le (by omega), List.append_nil]
    rfl
  | e + 1, k, j, f, j0, je, hk, hf => by
    obtain ⟨m, rfl⟩ : ∃ m, k = m + 1 := ⟨k - 1, by omega⟩
    have hfl : f.length = x.f1.length := by rw [hf]; exact turnS_length _ _ _
    simp only [monticuleref20_One.l1]
    rw [if_pos (by omega), if_pos j0, turn_val h (by omega) _ m (by omega)]
    simp only [Option.bind_some]
    rw [w64_next j0 (n := x.f1.length) (by omega) (by omega)]
    refine one_o1 h hp l q hl hq D i out h0 hd ho IH hD x ex hxq e m (j + 1) _ (by omega) (by omega) (by omega) ?_
    rw [hf, turnS_at _ _ _ j0 (by omega), turnS_next _ _ _ j0 (by omega)]
theorem one_o0 {n : Nat} {ps : List S38} (h : rightP n ps = true) (hp : ps.length ≤ 100) (l : List S53) (q : Nat) (hl : l.length ≤ 5000) (hq : q ≤ 100) (hx : ∀ x ∈ l, x.f1.length ≤ q ∧ x.f2.length ≤ 100000) : ∀ (d k : Nat) (i : Int) (out : List S53), 0 ≤ i → i + d = l.length → d * (q + 3) + 300 < k → out = (l.take i.toNat).map (turnO (mapP ps)) → monticuleref20_One.l0 k l ps out i = some (l.map (turnO (mapP ps)))
  | 0, k, i, out, h0, hd, hk, ho => by
    obtain ⟨m, rfl⟩ : ∃ m, k = m + 1 := ⟨k - 1, by omega⟩
    simp only [monticuleref20_One.l0]
    rw [if_neg (by omega), ho, List.take_of_length_le (by omega)]
  | d + 1, k, i, out, h0, hd, hk, ho => by
    obtain ⟨m, rfl⟩ : ∃ m, k = m + 1 := ⟨k - 1, by omega⟩
    have hm := hx _ (rd53_mem (l := l) h0 (by omega))
    rw [Nat.add_mul] at hk
    simp only [monticuleref20_One.l0]
    rw [if_pos (by omega), if_pos h0, clone18 _ ⟨by omega, hm.2⟩]
    simp only [Option.bind_some]
    rw [turn_val h (by omega) _ m (by omega)]
    simp only [Option.bind_some]
    refine one_o1 h hp l q hl hq (d * (q + 3) + 300) i out h0 (by omega) ho (fun m o2 hm2 ho2 => one_o0 h hp l q hl hq hx d m (i + 1) o2 (by omega) (by omega) hm2 ho2) (by omega) (rd_T53 l i) rfl hm.1 (rd_T53 l i).f1.length m 0 _ (by omega) (by omega) (by omega) ?_
    unfold turnS
    simp
theorem refone_val {n : Nat} {ps : List S38} (h : rightP n ps = true) (hp : ps.length ≤ 100) (l : List S53) (hl : l.length ≤ 40) (hx : ∀ x ∈ l, x.f1.length ≤ 60 ∧ x.f2.length ≤ 200) : monticuleref20_One.f 3000 l ps = some (turnA (mapP ps) l l.length) := by
  unfold monticuleref20_One.f
  rw [turnA_full]
  refine one_o0 h hp l 60 (by omega) (by omega) (fun x hx' => ⟨(hx x hx').1, by have := (hx x hx').2; omega⟩) l.length 3000 0 [] (by omega) (by omega) ?_ rfl
  have : l.length * (60 + 3) ≤ 40 * 63 := Nat.mul_le_mul hl (Nat.le_refl _)
  omega
/-! ### The turned objects -/
theorem usedL_turn (m : Int → Option Int) (l : List S53) : usedL (l.map (turnO m)) = usedL l := by
  induction l with
  | nil => rfl
  | cons x r ih =>
    rw [List.map_cons]
    simp only [usedL, ih, szO, turnO, List.length_map]
theorem mapP_there {n : Nat} {ps : List S38} (h : rightP n ps = true) {a t : Int} (e : mapP ps a = some t) : thereP n t = true := by
  rw [mapP_first h] at e
  obtain ⟨p, hp, _, rfl⟩ := firstP_some e
  unfold rightP at h
  exact rightL_in h _ (wordsOf_mem hp).2
theorem turn1_there {n : Nat} {ps : List S38} (h : rightP n ps = true) {a : Int} (ha : thereP n a = true) : thereP n (turn1 (mapP ps) a) = true := by
  unfold turn1
  cases e : mapP ps a with
  | none => exact ha
  | some t => exact mapP_there h e
theorem turn1_may {n : Nat} {ps : List S38} (h : rightP n ps = true) {a : Int} (ha : mayP n a = true) : mayP n (turn1 (mapP ps) a) = true := by
  unfold turn1
  cases e : mapP ps a with
  | none => exact ha
  | some t =>
    unfold mayP
    rw [show thereP n ((some t).getD a) = true from mapP_there h e, Bool.or_true]
theorem turn_ofErr {ps : List S38} {l : List S53} {o wd : Int} (h : rightP l.length ps = true) (he : ofErr l o wd = 0) : ofErr (turnA (mapP ps) l l.length) o wd = 0 := by
  rw [turnA_full]
  unfold ofErr at he ⊢
  rw [usedL_turn, List.length_map]
  by_cases h1 : (l.length : Int) > o ∨ usedL l > wd
  · rw [if_pos h1] at he; cases he
  · rw [if_neg h1] at he ⊢
    by_cases h2 : l.any (badO l.length) = true
    · rw [if_pos h2] at he; cases he
    · rw [if_neg h2] at he
      have h3 : ¬ (l.map (turnO (mapP ps))).any (badO l.length) = true := by
        intro h4
        apply h2
        rw [List.any_eq_true] at h4 ⊢
        obtain ⟨y, hy, hb⟩ := h4
        obtain ⟨x, hx, rfl⟩ := List.mem_map.1 hy
        refine ⟨x, hx, ?_⟩
        unfold badO at hb ⊢
        rw [Bool.or_eq_true] at hb ⊢
        rcases hb with hb | hb
        · left
          cases e : thereP l.length x.f0 with
          | false => rfl
          | true =>
            have := turn1_there h e
            unfold turnO at hb
            rw [this] at hb
            cases hb
        · right
          rw [List.any_eq_true] at hb ⊢
          obtain ⟨b, hb1, hb2⟩ := hb
          unfold turnO at hb1
          obtain ⟨a, ha, rfl⟩ := List.mem_map.1 hb1
          refine ⟨a, ha, ?_⟩
          cases e : mayP l.length a with
          | false => rfl
          | true => rw [turn1_may h e] at hb2; cases hb2
      rw [if_neg h3]
      by_cases h5 : l = []
      · subst h5; simp at he
      · rw [if_neg (fun e => h5 (List.map_eq_nil_iff.1 e))]
theorem apart2 {ps : List S38} (h : (wordsOf ps).Nodup) : ∀ p ∈ ps, ∀ q ∈ ps, p.f1 ≠ q.f0 := by
  induction ps with
  | nil => intro p hp; cases hp
  | cons x r ih =>
    rw [wordsOf_cons, List.nodup_cons, List.nodup_cons] at h
    intro p hp q hq e
    rcases List.mem_cons.1 hp with rfl | hp2
    · rcases List.mem_cons.1 hq with rfl | hq2
      · exact h.1 (by rw [← e]; exact List.mem_cons_self ..)
      · exact h.2.1 (by rw [e]; exact (wordsOf_mem hq2).1)
    · rcases List.mem_cons.1 hq with rfl | hq2
      · exact h.1 (by rw [← e]; exact List.mem_cons_of_mem _ (wordsOf_mem hp2).2)
      · exact ih h.2.2 p hp2 q hq2 e
theorem turn1_no {n : Nat} {ps : List S38} (h : rightP n ps = true) (a : Int) {p : S38} (hp : p ∈ ps) : turn1 (mapP ps) a ≠ p.f0 := by
  intro e
  unfold turn1 at e
  rw [mapP_first h] at e
  cases e1 : firstP ps a with
  | none =>
    rw [e1] at e
    subst e
    exact firstP_mem hp e1
  | some t =>
    rw [e1] at e
    obtain ⟨q, hq, _, h2⟩ := firstP_some e1
    unfold rightP at h
    rw [rightL_iff] at h
    exact apart2 h.2 q hq p hp (h2.trans e)
/-- No word of a turned object is an A. -/
theorem turned_no {n : Nat} {ps : List S38} {l : List S53} (h : rightP n ps = true) {x : S53} (hx : x ∈ turnA (mapP ps) l l.length) {p : S38} (hp : p ∈ ps) : x.f0 ≠ p.f0 ∧ ∀ a ∈ x.f1, a ≠ p.f0 := by
  rw [turnA_full] at hx
  obtain ⟨y, hy, rfl⟩ := List.mem_map.1 hx
  refine ⟨turn1_no h _ hp, fun a ha => ?_⟩
  obtain ⟨b, hb, rfl⟩ := List.mem_map.1 (show a ∈ y.f1.map (turn1 (mapP ps)) from ha)
  exact turn1_no h _ hp
end Go.Proofs.Ytiokegmpooildaa.Hp
