/- What the laws of chapter 19 need of lists. -/
import Derived.Test.YtiokegmpooildaaCa
namespace Go.Proofs.Ytiokegmpooildaa.Hp
open Go.RowKit Go.Proofs.YtiokegmpooildaaW.PrintWords Go.Proofs.YtiokegmpooildaaW.PrintLast Go.Proofs.YtiokegmpooildaaW.PrintMore Go.Proofs.Ytiokegmpooildaa.PAll
set_option linter.unusedVariables false
set_option linter.unusedSimpArgs false
theorem words_l0 (t : List Int) (ht : t.length ≤ 100000) : ∀ (d k : Nat) (i : Int), 0 ≤ i → i + d = t.length → d < k → monticuleref19_Words.l0 k t t i = some true
  | 0, k, i, h0, hd, hk => by
    obtain ⟨m, rfl⟩ : ∃ m, k = m + 1 := ⟨k - 1, by omega⟩
    simp only [monticuleref19_Words.l0]
    rw [if_neg (by omega)]
  | d + 1, k, i, h0, hd, hk => by
    obtain ⟨m, rfl⟩ : ∃ m, k = m + 1 := ⟨k - 1, by omega⟩
    simp only [monticuleref19_Words.l0]
    rw [if_pos (by omega), if_pos h0, if_pos (by omega), if_pos trivial, w64_next h0 (n := t.length) (by omega) (by omega)]
    exact words_l0 t ht d m (i + 1) (by omega) (by omega) (by omega)
theorem words_refl (t : List Int) (ht : t.length ≤ 100000) (K : Nat) (hK : t.length < K) : monticuleref19_Words.f K t t = some true := by
  unfold monticuleref19_Words.f
  rw [if_pos rfl]
  exact words_l0 t ht t.length K 0 (by omega) (by omega) hK
theorem nums_at (bs : List Bool) (i : Int) (h0 : 0 ≤ i) (h : rdOf false bs i = true) : rd (numsF bs 0) (cntB (bs.take i.toNat) : Int) = i := by
  have hi := rdOf_in h
  have e : bs = bs.take i.toNat ++ (true :: bs.drop (i.toNat + 1)) := by
    have h1 : bs[i.toNat] = true := by
      rw [rdOf_eq, List.getD_eq_getElem?_getD, List.getElem?_eq_getElem hi] at h
      exact h
    conv => lhs; rw [← List.take_append_drop i.toNat bs]
    rw [List.drop_eq_getElem_cons hi, h1]
  have e2 : numsF bs 0 = numsF (bs.take i.toNat) 0 ++ (i :: numsF (bs.drop (i.toNat + 1)) (i + 1)) := by
    have e3 : (0 : Int) + ((bs.take i.toNat).length : Int) = i := by rw [List.length_take]; omega
    conv => lhs; rw [e]
    rw [numsF_append, numsF_cons, if_pos rfl, e3]
  unfold rd
  rw [e2, List.getD_eq_getElem?_getD, Int.toNat_natCast]
  show ((numsF (bs.take i.toNat) 0 ++ (i :: numsF (bs.drop (i.toNat + 1)) (i + 1)))[(numsF (bs.take i.toNat) 0).length]?).getD 0 = i
  rw [List.getElem?_append_right (Nat.le_refl _), Nat.sub_self]
  rfl
theorem keptL_slots {m : Int → Option Int} {l : List S53} {ns : List Int} {q : Nat} (hq : ∀ x ∈ l, x.f1.length ≤ q) (hr : ∀ a ∈ ns, 0 ≤ a ∧ a < (l.length : Int)) : ∀ x ∈ keptL m l ns, x.f1.length ≤ q := by
  intro x hx
  obtain ⟨i, hi, rfl⟩ := List.mem_map.1 hx
  unfold turnO
  rw [List.length_map]
  exact hq _ (rd53_mem (hr i hi).1 (hr i hi).2)
theorem ofErr_ne {l : List S53} {o wd : Int} (h : ofErr l o wd = 0) : l ≠ [] := by
  rintro rfl
  unfold ofErr at h
  by_cases h1 : (([] : List S53).length : Int) > o ∨ usedL ([] : List S53) > wd
  · rw [if_pos h1] at h; cases h
  · rw [if_neg h1] at h; simp at h
end Go.Proofs.Ytiokegmpooildaa.Hp
namespace Go.Proofs.Ytiokegmpooildaa.Hp
open Go.RowKit Go.Proofs.YtiokegmpooildaaW.PrintWords Go.Proofs.YtiokegmpooildaaW.PrintLast Go.Proofs.YtiokegmpooildaaW.PrintMore Go.Proofs.Ytiokegmpooildaa.PAll
set_option linter.unusedVariables false
set_option linter.unusedSimpArgs false
theorem numsF_all : ∀ (n : Nat) (s : Int) (j : Nat), (numsF (List.replicate n true) s)[j]? = if j < n then some (s + j) else none
  | 0, s, j => by simp [numsF]
  | n + 1, s, j => by
    rw [List.replicate_succ, numsF_cons, if_pos rfl]
    cases j with
    | zero => rw [if_pos (by omega)]; simp
    | succ j =>
      rw [List.getElem?_cons_succ, numsF_all n (s + 1) j]
      by_cases h : j < n
      · rw [if_pos h, if_pos (by omega)]
        congr 1
        omega
      · rw [if_neg h, if_neg (by omega)]
theorem cntB_all (n : Nat) : cntB (List.replicate n true) = n := by
  unfold cntB
  have h1 := numsF_all n 0
  have hle := numsF_length (List.replicate n true) 0
  rw [List.length_replicate] at hle
  rcases Nat.lt_or_ge (numsF (List.replicate n true) 0).length n with h | h
  · have h2 := h1 (numsF (List.replicate n true) 0).length
    rw [List.getElem?_eq_none (Nat.le_refl _), if_pos h] at h2
    cases h2
  · omega
/-- Where all is reached, nothing is turned. -/
theorem turn_all (n : Nat) {a : Int} (ha : 0 ≤ a) : turn1 (movedF (numsF (List.replicate n true) 0)) a = a := by
  unfold turn1
  rw [movedF_nums _ ha]
  by_cases h : a % 2 = 0 ∧ rdOf false (List.replicate n true) (a / 2) = true
  · have h2 := rdOf_in h.2
    rw [List.length_replicate] at h2
    rw [if_pos h, List.take_replicate, cntB_all]
    show 2 * ((min (a / 2).toNat n : Nat) : Int) = a
    omega
  · rw [if_neg h]
    rfl
theorem kept_all (kl : List S53) (hW : WordsL kl) : keptL (movedF (numsF (List.replicate kl.length true) 0)) kl (numsF (List.replicate kl.length true) 0) = kl := by
  refine List.ext_getElem? (fun j => ?_)
  unfold keptL
  rw [List.getElem?_map, numsF_all]
  by_cases h : j < kl.length
  · rw [if_pos h, List.getElem?_eq_getElem h]
    show some (turnO _ (rd_T53 kl (0 + (j : Int)))) = some kl[j]
    have e1 : rd_T53 kl (0 + (j : Int)) = kl[j] := by
      unfold rd_T53
      have e2 : (0 + (j : Int)).toNat = j := by omega
      rw [e2, List.getD_eq_getElem?_getD, List.getElem?_eq_getElem h]
      rfl
    have hw := hW kl[j] (List.getElem_mem _)
    rw [e1]
    congr 1
    obtain ⟨x, hx⟩ : ∃ x, x = kl[j] := ⟨_, rfl⟩
    rw [← hx] at hw ⊢
    obtain ⟨f0, f1, f2⟩ := x
    unfold turnO
    have h0 : turn1 (movedF (numsF (List.replicate kl.length true) 0)) f0 = f0 := turn_all _ hw.1.1
    have h1 : f1.map (turn1 (movedF (numsF (List.replicate kl.length true) 0))) = f1 := by
      conv => rhs; rw [← List.map_id f1]
      exact List.map_congr_left (fun a ha => turn_all _ (hw.2 a ha).1)
    show (⟨turn1 (movedF (numsF (List.replicate kl.length true) 0)) f0, f1.map (turn1 (movedF (numsF (List.replicate kl.length true) 0))), f2⟩ : S53) = ⟨f0, f1, f2⟩
    rw [h0, h1]
  · rw [if_neg h, List.getElem?_eq_none (by omega)]
    rfl
theorem tos_all (n : Nat) (t : List Int) (ht : ∀ a ∈ t, W64 a) : t.map (turn1 (movedF (numsF (List.replicate n true) 0))) = t := by
  conv => rhs; rw [← List.map_id t]
  exact List.map_congr_left (fun a ha => turn_all _ (ht a ha).1)
theorem cnt_at (bs : List Bool) (j : Nat) (hj : j < (numsF bs 0).length) : ∃ i : Int, 0 ≤ i ∧ rdOf false bs i = true ∧ cntB (bs.take i.toNat) = j := by
  have hm : (numsF bs 0)[j] ∈ numsF bs 0 := List.getElem_mem _
  have h1 := (numsF_mem bs 0 _).1 hm
  rw [Int.sub_zero] at h1
  refine ⟨(numsF bs 0)[j], h1.1, h1.2, ?_⟩
  have h2 := nums_at bs (numsF bs 0)[j] h1.1 h1.2
  have hlt := cntB_lt bs (numsF bs 0)[j] h1.1 (by have := rdOf_in (show rdOf false bs (numsF bs 0)[j] = true from h1.2); omega) h1.2
  obtain ⟨c, hc⟩ : ∃ c, c = cntB (bs.take (numsF bs 0)[j].toNat) := ⟨_, rfl⟩
  rw [← hc] at h2 hlt ⊢
  have hcl : c < (numsF bs 0).length := hlt
  have h3 : (numsF bs 0)[c] = (numsF bs 0)[j] := by
    have h4 : rd (numsF bs 0) (c : Int) = (numsF bs 0)[c] := by
      unfold rd
      rw [List.getD_eq_getElem?_getD, Int.toNat_natCast, List.getElem?_eq_getElem hcl]
      rfl
    rw [← h4]; exact h2
  have hs := List.pairwise_iff_getElem.1 (numsF_sorted bs 0)
  rcases Nat.lt_trichotomy c j with h | h | h
  · have := hs c j hcl hj h; omega
  · exact h
  · have := hs j c hj hcl h; omega
theorem kept_at (m : Int → Option Int) (l : List S53) (bs : List Bool) (hbl : bs.length = l.length) {i : Int} (i0 : 0 ≤ i) (h : rdOf false bs i = true) : (keptL m l (numsF bs 0)).getD (cntB (bs.take i.toNat)) z53 = turnO m (rd_T53 l i) := by
  have h1 := nums_at bs i i0 h
  have hlt := cntB_lt bs i i0 (by have := rdOf_in h; omega) h
  have hcl : cntB (bs.take i.toNat) < (numsF bs 0).length := hlt
  unfold keptL
  rw [List.getD_eq_getElem?_getD, List.getElem?_map, List.getElem?_eq_getElem hcl]
  have h4 : (numsF bs 0)[cntB (bs.take i.toNat)] = i := by
    have h5 : rd (numsF bs 0) (cntB (bs.take i.toNat) : Int) = (numsF bs 0)[cntB (bs.take i.toNat)] := by
      unfold rd
      rw [List.getD_eq_getElem?_getD, Int.toNat_natCast, List.getElem?_eq_getElem hcl]
      rfl
    rw [← h5]; exact h1
  rw [h4]
  rfl
theorem turn_at (bs : List Bool) {a : Int} (ha : W64 a) (h2 : a % 2 = 0) (h : rdOf false bs (a / 2) = true) : turn1 (movedF (numsF bs 0)) a = 2 * (cntB (bs.take (a / 2).toNat) : Int) := by
  unfold W64 at ha
  unfold turn1
  rw [movedF_nums bs ha.1, if_pos ⟨h2, h⟩]
  rfl
/-- All that is kept is reached again. -/
theorem again {l : List S53} {roots : List Int} {bs : List Bool} (hm : Marked l roots bs) (hW : WordsL l) (hR : ∀ a ∈ roots, W64 a) :
    ∀ j, j < (numsF bs 0).length → Rch (keptL (movedF (numsF bs 0)) l (numsF bs 0)) (roots.map (turn1 (movedF (numsF bs 0)))) j := by
  intro j hj S' hS'
  obtain ⟨i, i0, hi, rfl⟩ := cnt_at bs j hj
  have hbl := hm.1
  have hil := rdOf_in hi
  have hc := hm.closed hW hR
  have hkl : (keptL (movedF (numsF bs 0)) l (numsF bs 0)).length = cntB bs := by unfold keptL; rw [List.length_map]; rfl
  have key : ClosedS l roots (fun i => bs.getD i false = true ∧ S' (cntB (bs.take i))) := by
    have tn : ∀ a, W64 a → thereP l.length a = true → bs.getD (a / 2).toNat false = true → thereP (cntB bs) (turn1 (movedF (numsF bs 0)) a) = true ∧ (turn1 (movedF (numsF bs 0)) a / 2).toNat = cntB (bs.take (a / 2).toNat) := by
      intro a hw ht hb
      have h2 := thereP_in ht
      have e := turn_at bs hw h2.1 hb
      have hlt := cntB_lt bs (a / 2) (by unfold W64 at hw; omega) (by omega) hb
      rw [e]
      refine ⟨?_, by omega⟩
      unfold thereP
      exact decide_eq_true (by omega)
    refine ⟨fun a ha ht => ?_, fun i hi hb a ha ht => ?_⟩
    · have hw : W64 a := by
        rcases List.mem_cons.1 ha with rfl | ha
        · unfold W64; omega
        · exact hR a ha
      have hb := hc.1 a ha ht
      have h3 := tn a hw ht hb
      refine ⟨hb, ?_⟩
      have h4 := hS'.1 (turn1 (movedF (numsF bs 0)) a) ?_ (by rw [hkl]; exact h3.1)
      · rw [h3.2] at h4; exact h4
      · rcases List.mem_cons.1 ha with rfl | ha
        · have h5 : turn1 (movedF (numsF bs 0)) 0 = 0 := by
            rw [turn_at bs hw (by decide) hb]
            rfl
          rw [h5]
          exact List.mem_cons_self ..
        · exact List.mem_cons_of_mem _ (List.mem_map.2 ⟨a, ha, rfl⟩)
    · have hw : W64 a := wordsO_W hW hi a ha
      have hb2 := hc.2 i hi hb.1 a ha ht
      have h3 := tn a hw ht hb2
      refine ⟨hb2, ?_⟩
      have hi2 : rdOf false bs (i : Int) = true := hb.1
      have hk := kept_at (movedF (numsF bs 0)) l bs hbl (i := (i : Int)) (by omega) hi2
      rw [Int.toNat_natCast] at hk
      have hlt := cntB_lt bs (i : Int) (by omega) (by omega) hi2
      rw [Int.toNat_natCast] at hlt
      have h4 := hS'.2 (cntB (bs.take i)) (by rw [hkl]; exact hlt) hb.2 (turn1 (movedF (numsF bs 0)) a) ?_ (by rw [hkl]; exact h3.1)
      · rw [h3.2] at h4; exact h4
      · rw [hk]
        have hro : rd_T53 l (i : Int) = l.getD i z53 := rfl
        rw [hro]
        unfold wordsO turnO
        rcases List.mem_cons.1 ha with rfl | ha
        · exact List.mem_cons_self ..
        · exact List.mem_cons_of_mem _ (List.mem_map.2 ⟨a, ha, rfl⟩)
  have hr := (hm.2 i.toNat (by omega)).1 hi _ key
  exact hr.2
theorem marked_again {l : List S53} {roots : List Int} {bs bs2 : List Bool} (hm : Marked l roots bs) (hW : WordsL l) (hR : ∀ a ∈ roots, W64 a) (h2 : Marked (keptL (movedF (numsF bs 0)) l (numsF bs 0)) (roots.map (turn1 (movedF (numsF bs 0)))) bs2) :
    bs2 = List.replicate (keptL (movedF (numsF bs 0)) l (numsF bs 0)).length true := by
  refine h2.unique ⟨List.length_replicate .., fun i hi => ⟨fun _ => again hm hW hR i (by unfold keptL at hi; rw [List.length_map] at hi; exact hi), fun _ => ?_⟩⟩
  rw [List.getD_eq_getElem?_getD, List.getElem?_replicate, if_pos hi]
  rfl
end Go.Proofs.Ytiokegmpooildaa.Hp
