/- The reference's Turn and Run; what is kept makes a heap. -/
import Derived.Test.YtiokegmpooildaaCq
import Derived.Test.YtiokegmpooildaaRn
import Derived.Test.YtiokegmpooildaaPw
import Derived.Test.YtiokegmpooildaaPAllx6
import Derived.Test.YtiokegmpooildaaPAllx7
namespace Go.Proofs.Ytiokegmpooildaa.Hp
open Go.RowKit Go.Proofs.YtiokegmpooildaaW.PrintWords Go.Proofs.YtiokegmpooildaaW.PrintLast Go.Proofs.YtiokegmpooildaaW.PrintMore Go.Proofs.Ytiokegmpooildaa.PAll
set_option linter.unusedVariables false
set_option linter.unusedSimpArgs false
/-- How many are true. -/
def cntB (bs : List Bool) : Nat := (numsF bs 0).length
theorem numsF_len (bs : List Bool) (i j : Int) : (numsF bs i).length = (numsF bs j).length := by
  induction bs generalizing i j with
  | nil => rfl
  | cons b r ih =>
    rw [numsF_cons, numsF_cons]
    cases b with
    | false => rw [if_neg (by decide), if_neg (by decide)]; exact ih _ _
    | true => rw [if_pos rfl, if_pos rfl, List.length_cons, List.length_cons, ih (i + 1) (j + 1)]
theorem cntB_append (a b : List Bool) : cntB (a ++ b) = cntB a + cntB b := by
  unfold cntB
  rw [numsF_append, List.length_append, numsF_len b _ 0]
theorem cntB_next (bs : List Bool) (x : Int) (h0 : 0 ≤ x) (h1 : x < (bs.length : Int)) : cntB (bs.take (x + 1).toNat) = if rdOf false bs x = true then cntB (bs.take x.toNat) + 1 else cntB (bs.take x.toNat) := by
  unfold cntB
  rw [numsF_next bs x h0 h1]
  by_cases e : rdOf false bs x = true
  · rw [if_pos e, if_pos e, List.length_append]; rfl
  · rw [if_neg e, if_neg e]
theorem cntB_take_le (bs : List Bool) (n : Nat) : cntB (bs.take n) ≤ cntB bs := by
  have h := cntB_append (bs.take n) (bs.drop n)
  rw [List.take_append_drop] at h
  omega
theorem cntB_lt (bs : List Bool) (x : Int) (h0 : 0 ≤ x) (h1 : x < (bs.length : Int)) (h : rdOf false bs x = true) : cntB (bs.take x.toNat) < cntB bs := by
  have h2 := cntB_next bs x h0 h1
  rw [if_pos h] at h2
  have h3 := cntB_take_le bs (x + 1).toNat
  omega
theorem cntB_len (bs : List Bool) : cntB bs ≤ bs.length := numsF_length bs 0
theorem rdOf_in {bs : List Bool} {x : Int} (h : rdOf false bs x = true) : x.toNat < bs.length := by
  rw [rdOf_eq, List.getD_eq_getElem?_getD] at h
  by_cases e : x.toNat < bs.length
  · exact e
  · rw [List.getElem?_eq_none (by omega)] at h; cases h
theorem numsF_mem (bs : List Bool) (s i : Int) : i ∈ numsF bs s ↔ s ≤ i ∧ bs.getD (i - s).toNat false = true := by
  induction bs generalizing s with
  | nil => simp [numsF]
  | cons b r ih =>
    rw [numsF_cons]
    have h1 : i ∈ numsF r (s + 1) ↔ s + 1 ≤ i ∧ (b :: r).getD (i - s).toNat false = true := by
      rw [ih (s + 1)]
      constructor
      · rintro ⟨h1, h2⟩
        refine ⟨h1, ?_⟩
        have e : (i - s).toNat = (i - (s + 1)).toNat + 1 := by omega
        rw [e]
        exact h2
      · rintro ⟨h1, h2⟩
        refine ⟨h1, ?_⟩
        have e : (i - s).toNat = (i - (s + 1)).toNat + 1 := by omega
        rw [e] at h2
        exact h2
    cases b with
    | false =>
      rw [if_neg (by decide), h1]
      constructor
      · rintro ⟨h2, h3⟩; exact ⟨by omega, h3⟩
      · rintro ⟨h2, h3⟩
        refine ⟨?_, h3⟩
        by_cases e : i = s
        · subst e
          rw [Int.sub_self] at h3
          cases h3
        · omega
    | true =>
      rw [if_pos rfl, List.mem_cons, h1]
      constructor
      · rintro (rfl | ⟨h2, h3⟩)
        · rw [Int.sub_self]; exact ⟨by omega, rfl⟩
        · exact ⟨by omega, h3⟩
      · rintro ⟨h2, h3⟩
        by_cases e : i = s
        · exact Or.inl e
        · exact Or.inr ⟨by omega, h3⟩
theorem movedF_take (bs : List Bool) (a : Int) : ∀ (n : Nat), n ≤ bs.length → movedF (numsF (bs.take n) 0) a = if a % 2 = 0 ∧ 0 ≤ a ∧ a / 2 < (n : Int) ∧ rdOf false bs (a / 2) = true then some (2 * (cntB (bs.take (a / 2).toNat) : Int)) else none
  | 0, hn => by
    rw [if_neg (by omega)]
    rfl
  | n + 1, hn => by
    have ih := movedF_take bs a n (by omega)
    have hx := numsF_next bs (n : Int) (by omega) (by omega)
    have e1 : ((n : Int) + 1).toNat = n + 1 := by omega
    have e2 : ((n : Int)).toNat = n := by omega
    rw [e1, e2] at hx
    rw [hx]
    by_cases hb : rdOf false bs (n : Int) = true
    · rw [if_pos hb, movedF_snoc]
      show (if a = 2 * (n : Int) then some (2 * ((numsF (bs.take n) 0).length : Int)) else movedF (numsF (bs.take n) 0) a) = _
      by_cases e : a = 2 * (n : Int)
      · have e3 : a / 2 = (n : Int) := by omega
        rw [if_pos e, e3, if_pos ⟨by omega, by omega, by omega, hb⟩, e2]
        rfl
      · rw [if_neg e, ih]
        by_cases hc : a % 2 = 0 ∧ 0 ≤ a ∧ a / 2 < (n : Int) ∧ rdOf false bs (a / 2) = true
        · rw [if_pos hc, if_pos ⟨hc.1, hc.2.1, by omega, hc.2.2.2⟩]
        · rw [if_neg hc, if_neg (fun h => hc ⟨h.1, h.2.1, by omega, h.2.2.2⟩)]
    · rw [if_neg hb, ih]
      by_cases hc : a % 2 = 0 ∧ 0 ≤ a ∧ a / 2 < (n : Int) ∧ rdOf false bs (a / 2) = true
      · rw [if_pos hc, if_pos ⟨hc.1, hc.2.1, by omega, hc.2.2.2⟩]
      · rw [if_neg hc, if_neg (fun h => hc ⟨h.1, h.2.1, by
          have h2 := h.2.2.1
          by_cases e : a / 2 = (n : Int)
          · have h3 := h.2.2.2; rw [e] at h3; exact absurd h3 hb
          · omega, h.2.2.2⟩)]
theorem movedF_nums (bs : List Bool) {a : Int} (ha : 0 ≤ a) : movedF (numsF bs 0) a = if a % 2 = 0 ∧ rdOf false bs (a / 2) = true then some (2 * (cntB (bs.take (a / 2).toNat) : Int)) else none := by
  have h := movedF_take bs a bs.length (Nat.le_refl _)
  rw [List.take_length] at h
  rw [h]
  by_cases hc : a % 2 = 0 ∧ rdOf false bs (a / 2) = true
  · rw [if_pos hc, if_pos ⟨hc.1, ha, by have := rdOf_in hc.2; omega, hc.2⟩]
  · rw [if_neg hc, if_neg (fun h => hc ⟨h.1, h.2.2.2⟩)]
theorem u64w (x : Int) : IntKind.u64.wrap x = x % 18446744073709551616 := by kernel_rfl
theorem turn19_l0 (bs : List Bool) (hb : bs.length ≤ 5000) (t : Int) (ht : t ≤ (bs.length : Int)) : ∀ (d k : Nat) (i : Int), 0 ≤ i → i + d = t → d < k → monticuleref19_Turn.l0 k bs t (cntB (bs.take i.toNat) : Int) i = some (2 * (cntB (bs.take t.toNat) : Int))
  | 0, k, i, i0, hd, hk => by
    obtain ⟨m, rfl⟩ : ∃ m, k = m + 1 := ⟨k - 1, by omega⟩
    have e : i = t := by omega
    subst e
    have hc := cntB_len (bs.take i.toNat)
    have hl : (bs.take i.toNat).length ≤ bs.length := by rw [List.length_take]; omega
    simp only [monticuleref19_Turn.l0]
    rw [if_neg (by omega)]
    have e2 : wrap64 (2 * (cntB (bs.take i.toNat) : Int)) = 2 * (cntB (bs.take i.toNat) : Int) := by unfold wrap64; omega
    rw [e2, u64w]
    congr 1
    omega
  | d + 1, k, i, i0, hd, hk => by
    obtain ⟨m, rfl⟩ : ∃ m, k = m + 1 := ⟨k - 1, by omega⟩
    have hc := cntB_len (bs.take i.toNat)
    have hl : (bs.take i.toNat).length ≤ bs.length := by rw [List.length_take]; omega
    have hn := cntB_next bs i i0 (by omega)
    have ih := turn19_l0 bs hb t ht d m (i + 1) (by omega) (by omega) (by omega)
    simp only [monticuleref19_Turn.l0]
    rw [if_pos (by omega), if_pos i0, if_pos (by omega), w64_next i0 (n := bs.length) (by omega) (by omega)]
    by_cases e : rdOf false bs i = true
    · rw [if_pos e] at hn ⊢
      have e2 : wrap64 ((cntB (bs.take i.toNat) : Int) + 1) = ((cntB (bs.take (i + 1).toNat) : Nat) : Int) := by rw [hn]; unfold wrap64; omega
      rw [e2]
      exact ih
    · rw [if_neg e] at hn ⊢
      rw [← hn]
      exact ih
theorem turn19_val (bs : List Bool) (hb : bs.length ≤ 5000) {a : Int} (ha : W64 a) (K : Nat) (hK : bs.length + 3 < K) : monticuleref19_Turn.f K a bs = some (turn1 (movedF (numsF bs 0)) a) := by
  obtain ⟨m, rfl⟩ : ∃ m, K = m + 1 := ⟨K - 1, by omega⟩
  have ha' := ha
  unfold W64 at ha'
  unfold monticuleref19_Turn.f turn1
  rw [there18 ha bs.length hb, Option.bind_some, movedF_nums bs ha'.1]
  cases ht : thereP bs.length a with
  | false =>
    rw [if_neg (show ¬ (false : Bool) = true by decide), if_pos (show (-1 : Int) < 0 by decide)]
    have hno : ¬ (a % 2 = 0 ∧ rdOf false bs (a / 2) = true) := by
      rintro ⟨h1, h2⟩
      have := rdOf_in h2
      have h3 : thereP bs.length a = true := by unfold thereP; exact decide_eq_true (by omega)
      rw [ht] at h3; cases h3
    rw [if_neg hno]
    simp only [monticuleref19_Turn.j0]
    rw [if_pos trivial]
    rfl
  | true =>
    have h2 := thereP_in ht
    rw [if_pos rfl, if_neg (by omega), if_pos (by omega), if_pos h2.2]
    simp only [monticuleref19_Turn.j0]
    cases hs : rdOf false bs (a / 2) with
    | false =>
      rw [if_pos (by decide), if_neg (by rintro ⟨_, h⟩; cases h)]
      rfl
    | true =>
      rw [if_neg (by decide), if_pos ⟨h2.1, rfl⟩]
      have h := turn19_l0 bs hb (a / 2) (by omega) (a / 2).toNat m 0 (by omega) (by omega) (by omega)
      exact h
/-! ### Run -/
theorem keptL_snoc (m : Int → Option Int) (l : List S53) (ns : List Int) (i : Int) : keptL m l (ns ++ [i]) = keptL m l ns ++ [turnO m (rd_T53 l i)] := by
  unfold keptL
  rw [List.map_append]
  rfl
theorem run_l2 (bs : List Bool) (hb : bs.length ≤ 5000) (roots : List Int) (hr : roots.length ≤ 100000) (hR : ∀ a ∈ roots, W64 a) (out : List S53) : ∀ (d k : Nat) (y : Int) (o2 : List Int), 0 ≤ y → y + d = roots.length → d + bs.length + 10 < k → o2 = (roots.take y.toNat).map (turn1 (movedF (numsF bs 0))) → monticuleref19_Run.l2 k roots bs out o2 y = some (out, roots.map (turn1 (movedF (numsF bs 0))))
  | 0, k, y, o2, y0, hd, hk, ho => by
    obtain ⟨m, rfl⟩ : ∃ m, k = m + 1 := ⟨k - 1, by omega⟩
    simp only [monticuleref19_Run.l2]
    rw [if_neg (by omega), ho, List.take_of_length_le (by omega)]
  | d + 1, k, y, o2, y0, hd, hk, ho => by
    obtain ⟨m, rfl⟩ : ∃ m, k = m + 1 := ⟨k - 1, by omega⟩
    have hol : o2.length ≤ 100000 := by rw [ho, List.length_map, List.length_take]; omega
    simp only [monticuleref19_Run.l2]
    rw [if_pos (by omega), if_pos y0, turn19_val bs hb (hR _ (rd_mem y0 (by omega))) m (by omega), Option.bind_some, if_pos (by omega), w64_next y0 (n := roots.length) (by omega) (by omega)]
    refine run_l2 bs hb roots hr hR out d m (y + 1) _ (by omega) (by omega) (by omega) ?_
    rw [take_snoc roots y y0 (by omega), List.map_append, ho]
    rfl
theorem run_l1 (l : List S53) (roots : List Int) (bs : List Bool) (hb : bs.length ≤ 5000) (out : List S53) (hout : out.length ≤ 5000) (i : Int) (i0 : 0 ≤ i) (i1 : i < (l.length : Int)) (hl : l.length ≤ 5000) (x : S53) (hw : ∀ a ∈ x.f1, W64 a) (hq : x.f1.length ≤ 100000) (D : Nat) (hD : bs.length + 10 ≤ D) (res : Option (List S53 × List Int))
    (IH : ∀ m, D < m → monticuleref19_Run.l0 m l roots bs (out ++ [turnO (movedF (numsF bs 0)) x]) (i + 1) = res) : ∀ (e k : Nat) (j : Int) (f : List Int), 0 ≤ j → j + e = x.f1.length → D + e + 1 < k → f = turnS (movedF (numsF bs 0)) x.f1 j.toNat → monticuleref19_Run.l1 k l roots bs out i j (turn1 (movedF (numsF bs 0)) x.f0) f x.f2 = res
  | 0, k, j, f, j0, je, hk, hf => by
    obtain ⟨m, rfl⟩ : ∃ m, k = m + 1 := ⟨k - 1, by omega⟩
    have hfl : f.length = x.f1.length := by rw [hf]; exact turnS_length _ _ _
    simp only [monticuleref19_Run.l1]
    rw [if_neg (by omega), if_pos (by omega), w64_next i0 (n := l.length) (by omega) (by omega)]
    have e1 : f = x.f1.map (turn1 (movedF (numsF bs 0))) := by
      rw [hf]
      unfold turnS
      rw [List.take_of_length_le (by omega), List.drop_of_length_le (by omega), List.append_nil]
    rw [e1]
    exact IH m (by omega)
  | e + 1, k, j, f, j0, je, hk, hf => by
    obtain ⟨m, rfl⟩ : ∃ m, k = m + 1 := ⟨k - 1, by omega⟩
    have hfl : f.length = x.f1.length := by rw [hf]; exact turnS_length _ _ _
    have hrd : rd f j = rd x.f1 j := by rw [hf]; exact turnS_at _ _ _ j0 (by omega)
    simp only [monticuleref19_Run.l1]
    rw [if_pos (by omega), if_pos j0, hrd, turn19_val bs hb (hw _ (rd_mem j0 (by omega))) m (by omega), Option.bind_some, w64_next j0 (n := x.f1.length) (by omega) (by omega)]
    refine run_l1 l roots bs hb out hout i i0 i1 hl x hw hq D hD res IH e m (j + 1) _ (by omega) (by omega) (by omega) ?_
    rw [hf, turnS_next _ _ _ j0 (by omega)]
theorem run_l0 (l : List S53) (roots : List Int) (bs : List Bool) (hbl : bs.length = l.length) (hl : l.length ≤ 5000) (q : Nat) (hq : q ≤ 100000) (hs : ∀ x ∈ l, x.f1.length ≤ q ∧ x.f2.length ≤ 100000) (hW : WordsL l) (hr : roots.length ≤ 100000) (hR : ∀ a ∈ roots, W64 a) : ∀ (d k : Nat) (i : Int) (out : List S53), 0 ≤ i → i + d = l.length → d * (q + 4) + l.length + roots.length + 20 < k → out = keptL (movedF (numsF bs 0)) l (numsF (bs.take i.toNat) 0) → monticuleref19_Run.l0 k l roots bs out i = some (keptL (movedF (numsF bs 0)) l (numsF bs 0), roots.map (turn1 (movedF (numsF bs 0))))
  | 0, k, i, out, i0, hd, hk, ho => by
    obtain ⟨m, rfl⟩ : ∃ m, k = m + 1 := ⟨k - 1, by omega⟩
    simp only [monticuleref19_Run.l0]
    rw [if_neg (by omega), ho, List.take_of_length_le (by omega)]
    exact run_l2 bs (by omega) roots hr hR _ roots.length m 0 [] (by omega) (by omega) (by omega) rfl
  | d + 1, k, i, out, i0, hd, hk, ho => by
    obtain ⟨m, rfl⟩ : ∃ m, k = m + 1 := ⟨k - 1, by omega⟩
    rw [Nat.add_mul] at hk
    have hn := numsF_next bs i i0 (by omega)
    have hol : out.length ≤ 5000 := by
      rw [ho]
      unfold keptL
      rw [List.length_map]
      have h1 := numsF_length (bs.take i.toNat) 0
      have h2 : (bs.take i.toNat).length ≤ bs.length := by rw [List.length_take]; omega
      omega
    simp only [monticuleref19_Run.l0]
    rw [if_pos (by omega), if_pos i0, if_pos (by omega)]
    by_cases e : rdOf false bs i = true
    · have hx := hs _ (rd53_mem (l := l) i0 (by omega))
      have hw := hW _ (rd53_mem (l := l) i0 (by omega))
      rw [if_pos e] at hn ⊢
      rw [clone18 _ ⟨by omega, hx.2⟩, Option.bind_some]
      dsimp only
      rw [turn19_val bs (by omega) hw.1 m (by omega), Option.bind_some]
      refine run_l1 l roots bs (by omega) out hol i i0 (by omega) hl (rd_T53 l i) hw.2 (by omega) (d * (q + 4) + l.length + roots.length + 20) (by omega) _ (fun m' hm' => ?_) (rd_T53 l i).f1.length m 0 _ (by omega) (by omega) (by omega) (by unfold turnS; simp)
      exact run_l0 l roots bs hbl hl q hq hs hW hr hR d m' (i + 1) _ (by omega) (by omega) hm' (by rw [hn, keptL_snoc, ho])
    · rw [if_neg e] at hn ⊢
      rw [w64_next i0 (n := l.length) (by omega) (by omega)]
      exact run_l0 l roots bs hbl hl q hq hs hW hr hR d m (i + 1) _ (by omega) (by omega) (by omega) (by rw [hn, ho])
theorem run_val (l : List S53) (roots : List Int) (bs : List Bool) (K : Nat) (hK : 7000000 ≤ K) (hre : monticuleref19_Reached.f K l roots = some bs) (hbl : bs.length = l.length) (hl : l.length ≤ 40) (hs : ∀ x ∈ l, x.f1.length ≤ 60 ∧ x.f2.length ≤ 200) (hW : WordsL l) (hr : roots.length ≤ 100) (hR : ∀ a ∈ roots, W64 a) :
    monticuleref19_Run.f K l roots = some (keptL (movedF (numsF bs 0)) l (numsF bs 0), roots.map (turn1 (movedF (numsF bs 0)))) := by
  have h3 : l.length * (60 + 4) ≤ 40 * 64 := Nat.mul_le_mul hl (Nat.le_refl _)
  unfold monticuleref19_Run.f
  rw [hre, Option.bind_some]
  exact run_l0 l roots bs hbl (by omega) 60 (by omega) (fun x hx => by have := hs x hx; omega) hW (by omega) hR l.length K 0 [] (by omega) (by omega) (by omega) rfl
/-! ### What is kept makes a heap -/
theorem used_kept (m : Int → Option Int) (l : List S53) (bs : List Bool) (hbl : bs.length = l.length) : ∀ n : Nat, n ≤ l.length → usedL (keptL m l (numsF (bs.take n) 0)) ≤ usedL (l.take n)
  | 0, _ => by simp [numsF, keptL, usedL]
  | n + 1, hn => by
    have ih := used_kept m l bs hbl n (by omega)
    have hx := numsF_next bs (n : Int) (by omega) (by omega)
    have hl := take_next l (n : Int) (by omega) (by omega)
    have e1 : ((n : Int) + 1).toNat = n + 1 := by omega
    have e2 : ((n : Int)).toNat = n := by omega
    rw [e1, e2] at hx hl
    have hz : 0 ≤ szO (rd_T53 l n) := by unfold szO; omega
    rw [hl, usedL_snoc]
    by_cases hb : rdOf false bs (n : Int) = true
    · rw [if_pos hb] at hx
      rw [hx, keptL_snoc, usedL_snoc]
      have e3 : szO (turnO m (rd_T53 l n)) = szO (rd_T53 l n) := by unfold szO turnO; rw [List.length_map]
      omega
    · rw [if_neg hb] at hx
      rw [hx]
      omega
theorem kept_turn {l : List S53} {roots : List Int} {bs : List Bool} (hbl : bs.length = l.length) (hc : ClosedS l roots (fun i => bs.getD i false = true)) {i : Int} (i0 : 0 ≤ i) (i1 : i < (l.length : Int)) (hb : rdOf false bs i = true) {a : Int} (ha : a ∈ wordsO (rd_T53 l i)) (hw : W64 a) (ht : thereP l.length a = true) :
    thereP (numsF bs 0).length (turn1 (movedF (numsF bs 0)) a) = true := by
  have h1 := hc.2 i.toNat (by omega) hb a ha ht
  have h2 := thereP_in ht
  unfold W64 at hw
  have h3 : rdOf false bs (a / 2) = true := h1
  unfold turn1
  rw [movedF_nums bs hw.1, if_pos ⟨h2.1, h3⟩]
  have h4 := cntB_lt bs (a / 2) (by omega) (by omega) h3
  show thereP (cntB bs) (2 * (cntB (bs.take (a / 2).toNat) : Int)) = true
  unfold thereP
  exact decide_eq_true (by omega)
theorem kept_may {l : List S53} {roots : List Int} {bs : List Bool} (hbl : bs.length = l.length) (hc : ClosedS l roots (fun i => bs.getD i false = true)) {i : Int} (i0 : 0 ≤ i) (i1 : i < (l.length : Int)) (hb : rdOf false bs i = true) {a : Int} (ha : a ∈ wordsO (rd_T53 l i)) (hw : W64 a) (ht : mayP l.length a = true) :
    mayP (numsF bs 0).length (turn1 (movedF (numsF bs 0)) a) = true := by
  unfold mayP at ht ⊢
  rw [Bool.or_eq_true] at ht ⊢
  rcases ht with ht | ht
  · left
    have h1 := of_decide_eq_true ht
    unfold W64 at hw
    unfold turn1
    rw [movedF_nums bs hw.1, if_neg (by omega)]
    exact ht
  · right
    exact kept_turn hbl hc i0 i1 hb ha hw ht
theorem kept_ofErr {l : List S53} {roots : List Int} {bs : List Bool} {o wd : Int} (hm : Marked l roots bs) (hW : WordsL l) (hR : ∀ a ∈ roots, W64 a) (he : ofErr l o wd = 0) : ofErr (keptL (movedF (numsF bs 0)) l (numsF bs 0)) o wd = 0 := by
  have hc := hm.closed hW hR
  have hbl := hm.1
  have hkl : (keptL (movedF (numsF bs 0)) l (numsF bs 0)).length = (numsF bs 0).length := by unfold keptL; rw [List.length_map]
  have hnl := numsF_length bs 0
  have hu := used_kept (movedF (numsF bs 0)) l bs hbl l.length (Nat.le_refl _)
  rw [List.take_of_length_le (by omega), List.take_length] at hu
  unfold ofErr at he ⊢
  rw [hkl]
  by_cases h1 : (l.length : Int) > o ∨ usedL l > wd
  · rw [if_pos h1] at he; cases he
  · rw [if_neg h1] at he
    rw [if_neg (by omega)]
    by_cases h2 : l.any (badO l.length) = true
    · rw [if_pos h2] at he; cases he
    · rw [if_neg h2] at he
      by_cases h5 : l = []
      · rw [if_pos h5] at he; cases he
      · have hn : 0 < l.length := List.length_pos_iff.2 h5
        have hgood : ∀ x ∈ l, badO l.length x = false := fun x hx => by
          cases hb : badO l.length x with
          | false => rfl
          | true => exact absurd (List.any_eq_true.2 ⟨x, hx, hb⟩) h2
        have h3 : ¬ (keptL (movedF (numsF bs 0)) l (numsF bs 0)).any (badO (numsF bs 0).length) = true := by
          intro h4
          rw [List.any_eq_true] at h4
          obtain ⟨y, hy, hb⟩ := h4
          obtain ⟨i, hi, rfl⟩ := List.mem_map.1 hy
          have him := (numsF_mem bs 0 i).1 hi
          rw [Int.sub_zero] at him
          have hil := rdOf_in (show rdOf false bs i = true from him.2)
          have hx := hgood _ (rd53_mem (l := l) him.1 (by omega))
          have hw := hW _ (rd53_mem (l := l) him.1 (by omega))
          unfold badO at hb hx
          rw [Bool.or_eq_false_iff, Bool.not_eq_false', List.any_eq_false] at hx
          rw [Bool.or_eq_true, List.any_eq_true] at hb
          rcases hb with hb | ⟨b, hb1, hb2⟩
          · have := kept_turn hbl hc him.1 (by omega) him.2 (a := (rd_T53 l i).f0) (List.mem_cons_self ..) hw.1 hx.1
            unfold turnO at hb
            rw [this] at hb
            cases hb
          · unfold turnO at hb1
            obtain ⟨a, ha, rfl⟩ := List.mem_map.1 hb1
            have := kept_may hbl hc him.1 (by omega) him.2 (a := a) (List.mem_cons_of_mem _ ha) (hw.2 a ha) (by have := hx.2 a ha; simpa using this)
            rw [this] at hb2
            cases hb2
        rw [if_neg h3, if_neg ?_]
        intro h6
        have h7 : (keptL (movedF (numsF bs 0)) l (numsF bs 0)).length = 0 := by rw [h6]; rfl
        rw [hkl] at h7
        have h8 : (0 : Int) ∈ numsF bs 0 := (numsF_mem bs 0 0).2 ⟨by omega, hc.1 0 (List.mem_cons_self ..) (by unfold thereP; exact decide_eq_true (by omega))⟩
        rw [List.length_eq_zero_iff.1 h7] at h8
        cases h8
end Go.Proofs.Ytiokegmpooildaa.Hp
