/- What a heap stays: whatever is made or set, its objects make a heap. -/
import Derived.Test.YtiokegmpooildaaMd
import Derived.Test.YtiokegmpooildaaNw
import Derived.Test.YtiokegmpooildaaPu
namespace Go.Proofs.Ytiokegmpooildaa.Hp
open Go.RowKit Go.Proofs.YtiokegmpooildaaW.PrintWords Go.Proofs.YtiokegmpooildaaW.PrintLast Go.Proofs.YtiokegmpooildaaW.PrintMore Go.Proofs.Ytiokegmpooildaa.PAll
set_option linter.unusedVariables false
set_option linter.unusedSimpArgs false
structure HeapOk (l : List S53) (o wd : Int) : Prop where
  len : (l.length : Int) ≤ o
  used : usedL l ≤ wd
  good : ∀ x ∈ l, badO l.length x = false
  ne : l ≠ []
  words : WordsL l
  small : ∀ x ∈ l, x.f1.length ≤ 1000 ∧ x.f2.length ≤ 8000
theorem HeapOk.ofErr0 {l : List S53} {o wd : Int} (h : HeapOk l o wd) : ofErr l o wd = 0 := by
  unfold ofErr
  have h1 := h.len
  have h2 := h.used
  rw [if_neg (by omega), if_neg (by rw [List.any_eq_true]; rintro ⟨x, hx, hb⟩; rw [h.good x hx] at hb; cases hb), if_neg h.ne]
theorem HeapOk.smallL {l : List S53} {o wd : Int} (h : HeapOk l o wd) (ho : o ≤ 4096) : SmallL l := by
  have h1 := h.len
  exact ⟨by omega, fun x hx => by have := h.small x hx; omega⟩
theorem HeapOk.used0 {l : List S53} {o wd : Int} (h : HeapOk l o wd) : 0 ≤ usedL l := (usedL_le (fun x hx => by have := h.small x hx; omega)).1
theorem HeapOk.start {l : List S53} {o wd : Int} (he : ofErr l o wd = 0) (hw : WordsL l) (hs : ∀ x ∈ l, x.f1.length ≤ 1000 ∧ x.f2.length ≤ 8000) : HeapOk l o wd := by
  unfold ofErr at he
  by_cases h1 : (l.length : Int) > o ∨ usedL l > wd
  · rw [if_pos h1] at he; cases he
  · rw [if_neg h1] at he
    by_cases h2 : l.any (badO l.length) = true
    · rw [if_pos h2] at he; cases he
    · rw [if_neg h2] at he
      by_cases h3 : l = []
      · rw [if_pos h3] at he; cases he
      · refine ⟨by omega, by omega, fun x hx => ?_, h3, hw, hs⟩
        cases hb : badO l.length x with
        | false => rfl
        | true => exact absurd (List.any_eq_true.2 ⟨x, hx, hb⟩) h2
theorem there_more {n : Nat} {a : Int} (h : thereP n a = true) : thereP (n + 1) a = true := by
  unfold thereP at h ⊢
  have := of_decide_eq_true h
  exact decide_eq_true (by omega)
theorem may_more {n : Nat} {a : Int} (h : mayP n a = true) : mayP (n + 1) a = true := by
  unfold mayP at h ⊢
  rw [Bool.or_eq_true] at h ⊢
  exact h.imp id there_more
theorem goodO {n : Nat} {x : S53} : badO n x = false ↔ thereP n x.f0 = true ∧ ∀ a ∈ x.f1, mayP n a = true := by
  unfold badO
  rw [Bool.or_eq_false_iff, Bool.not_eq_false', List.any_eq_false]
  constructor
  · rintro ⟨h1, h2⟩
    exact ⟨h1, fun a ha => by have := h2 a ha; simpa using this⟩
  · rintro ⟨h1, h2⟩
    exact ⟨h1, fun a ha => by rw [h2 a ha]; decide⟩
theorem HeapOk.made {l : List S53} {o wd cls slots : Int} {bs : List Int} (h : HeapOk l o wd) (hc : W64 cls) : HeapOk (makeL l o wd (usedL l) cls slots bs) o wd ∧ makeU l o wd (usedL l) cls slots bs = usedL (makeL l o wd (usedL l) cls slots bs) := by
  unfold makeL makeU
  by_cases e : makeE l o wd (usedL l) cls slots bs = 0
  · rw [if_pos e, if_pos e]
    unfold makeE at e
    by_cases ht : thereP l.length cls = true
    · rw [if_pos ht] at e
      by_cases hs : 0 ≤ slots ∧ slots ≤ 1000 ∧ bs.length ≤ 8000
      · rw [if_pos hs] at e
        by_cases hf : (l.length : Int) ≠ o ∧ szO (newO cls slots bs) ≤ wd - usedL l
        · have h1 := h.len
          refine ⟨⟨?_, ?_, fun x hx => ?_, by simp, fun x hx => ?_, fun x hx => ?_⟩, (usedL_snoc _ _).symm⟩
          · rw [List.length_append]
            show ((l.length + 1 : Nat) : Int) ≤ o
            omega
          · rw [usedL_snoc]; omega
          · rw [List.length_append, goodO]
            show thereP (l.length + 1) x.f0 = true ∧ ∀ a ∈ x.f1, mayP (l.length + 1) a = true
            rcases List.mem_append.1 hx with hx | hx
            · have := goodO.1 (h.good x hx)
              exact ⟨there_more this.1, fun a ha => may_more (this.2 a ha)⟩
            · obtain rfl := List.mem_singleton.1 hx
              refine ⟨there_more ht, fun a ha => ?_⟩
              have h0 : a = 0 := (List.mem_replicate.1 ha).2
              subst h0
              unfold mayP
              rw [Bool.or_eq_true]
              right
              unfold thereP
              exact decide_eq_true (by omega)
          · rcases List.mem_append.1 hx with hx | hx
            · exact h.words x hx
            · obtain rfl := List.mem_singleton.1 hx
              refine ⟨hc, fun a ha => ?_⟩
              have h0 : a = 0 := (List.mem_replicate.1 ha).2
              subst h0
              exact ⟨by omega, by omega⟩
          · rcases List.mem_append.1 hx with hx | hx
            · exact h.small x hx
            · obtain rfl := List.mem_singleton.1 hx
              refine ⟨?_, hs.2.2⟩
              show (List.replicate slots.toNat (0 : Int)).length ≤ 1000
              rw [List.length_replicate]
              omega
        · rw [if_neg hf] at e; cases e
      · rw [if_neg hs] at e; cases e
    · rw [if_neg ht] at e; cases e
  · rw [if_neg e, if_neg e]
    exact ⟨h, rfl⟩
theorem usedL_set (l : List S53) (k : Nat) (x : S53) (h : k < l.length) (e : szO x = szO l[k]) : usedL (l.set k x) = usedL l := by
  induction l generalizing k with
  | nil => simp at h
  | cons y r ih =>
    cases k with
    | zero =>
      rw [List.set_cons_zero]
      simp only [usedL]
      rw [e]
      rfl
    | succ k =>
      rw [List.set_cons_succ]
      simp only [usedL]
      rw [ih k (by simpa using h) e]
theorem rd_get (l : List S53) (i : Int) (h0 : 0 ≤ i) (h1 : i < (l.length : Int)) : rd_T53 l i = l[i.toNat]'(by omega) := by
  unfold rd_T53
  rw [List.getD_eq_getElem?_getD, List.getElem?_eq_getElem (by omega)]
  rfl
theorem HeapOk.put {l : List S53} {o wd : Int} (h : HeapOk l o wd) (i : Int) (h0 : 0 ≤ i) (h1 : i < (l.length : Int)) (x : S53) (e : szO x = szO (rd_T53 l i)) (hb : badO l.length x = false) (hw : W64 x.f0 ∧ ∀ a ∈ x.f1, W64 a) (hs : x.f1.length ≤ 1000 ∧ x.f2.length ≤ 8000) :
    HeapOk (l.set i.toNat x) o wd ∧ usedL (l.set i.toNat x) = usedL l := by
  have hu : usedL (l.set i.toNat x) = usedL l := usedL_set l i.toNat x (by omega) (by rw [e, rd_get l i h0 h1])
  refine ⟨⟨by rw [List.length_set]; exact h.len, by rw [hu]; exact h.used, fun y hy => ?_, ?_, fun y hy => ?_, fun y hy => ?_⟩, hu⟩
  · rw [List.length_set]
    rcases List.mem_or_eq_of_mem_set hy with hy | rfl
    · exact h.good y hy
    · exact hb
  · intro e2
    have := congrArg List.length e2
    rw [List.length_set] at this
    exact h.ne (List.length_eq_zero_iff.1 this)
  · rcases List.mem_or_eq_of_mem_set hy with hy | rfl
    · exact h.words y hy
    · exact hw
  · rcases List.mem_or_eq_of_mem_set hy with hy | rfl
    · exact h.small y hy
    · exact hs
theorem slotErr_in {l : List S53} {a i : Int} (ha : W64 a) (e : slotErr l a i = 0) : (0 ≤ a / 2 ∧ a / 2 < (l.length : Int)) ∧ 0 ≤ i ∧ i < ((rd_T53 l (a / 2)).f1.length : Int) ∧ thereP l.length a = true := by
  unfold slotErr at e
  by_cases ht : thereP l.length a = true
  · rw [if_pos ht] at e
    by_cases hi : 0 ≤ i ∧ i < ((objectL l a).f1.length : Int)
    · have h2 := thereP_at ht
      unfold W64 at ha
      have heq : objectL l a = rd_T53 l (a / 2) := by unfold objectL; rw [ht]; rfl
      rw [heq] at hi
      exact ⟨⟨by omega, h2.2⟩, hi.1, hi.2, ht⟩
    · rw [if_neg hi] at e; cases e
  · rw [if_neg ht] at e; cases e
theorem HeapOk.setted {l : List S53} {o wd a i v : Int} (h : HeapOk l o wd) (ha : W64 a) (hv : W64 v) : HeapOk (setL l a i v) o wd ∧ usedL (setL l a i v) = usedL l := by
  unfold setL
  by_cases e : setErr l a i v = 0
  · rw [if_pos e]
    unfold setErr at e
    by_cases hz : slotErr l a i = 0
    · rw [if_pos hz] at e
      by_cases hm : mayP l.length v = true
      · obtain ⟨hj, hi0, hi1, _⟩ := slotErr_in ha hz
        have hmem := rd53_mem hj.1 hj.2
        have hg := goodO.1 (h.good _ hmem)
        have hwd := h.words _ hmem
        refine h.put _ hj.1 hj.2 _ (by unfold szO; rw [List.length_set]) (goodO.2 ⟨hg.1, fun b hb => ?_⟩) ⟨hwd.1, fun b hb => ?_⟩ (by rw [List.length_set]; exact h.small _ hmem)
        · rcases List.mem_or_eq_of_mem_set hb with hb | rfl
          · exact hg.2 b hb
          · exact hm
        · rcases List.mem_or_eq_of_mem_set hb with hb | rfl
          · exact hwd.2 b hb
          · exact hv
      · rw [if_neg hm] at e; cases e
    · rw [if_neg hz] at e; exact absurd e hz
  · rw [if_neg e]
    exact ⟨h, rfl⟩
theorem HeapOk.settedC {l : List S53} {o wd a c : Int} (h : HeapOk l o wd) (ha : W64 a) (hc : W64 c) : HeapOk (setCL l a c) o wd ∧ usedL (setCL l a c) = usedL l := by
  unfold setCL
  by_cases e : setCErr l a c = 0
  · rw [if_pos e]
    unfold setCErr at e
    by_cases hh : thereP l.length a = true ∧ thereP l.length c = true
    · have h2 := thereP_at hh.1
      have ha' := ha
      unfold W64 at ha'
      have hmem := rd53_mem (l := l) (i := a / 2) (by omega) h2.2
      have hg := goodO.1 (h.good _ hmem)
      have hwd := h.words _ hmem
      exact h.put _ (by omega) h2.2 _ rfl (goodO.2 ⟨hh.2, hg.2⟩) ⟨hc, hwd.2⟩ (by have := h.small _ hmem; exact this)
    · rw [if_neg hh] at e; cases e
  · rw [if_neg e]
    exact ⟨h, rfl⟩
/-! ### Acts -/
def smallA (L : List S58) : Bool := decide (L.length ≤ 40) && L.all fun x => decide (x.f4.length ≤ 9000)
theorem rd58_mem {xs : List S58} {i : Int} (h0 : 0 ≤ i) (h1 : i < (xs.length : Int)) : rd_T58 xs i ∈ xs := by
  unfold rd_T58
  rw [List.getD_eq_getElem?_getD, List.getElem?_eq_getElem (by omega)]
  exact List.getElem_mem _
theorem drop58 (ps : List S58) (x : Int) (h0 : 0 ≤ x) (h1 : x < (ps.length : Int)) : ps.drop x.toNat = rd_T58 ps x :: ps.drop (x + 1).toNat := by
  have e : (x + 1).toNat = x.toNat + 1 := by omega
  rw [e, List.drop_eq_getElem_cons (by omega)]
  unfold rd_T58
  rw [List.getD_eq_getElem?_getD, List.getElem?_eq_getElem (by omega)]
  rfl
theorem smallA_l0 (l : List S58) (hl : l.length ≤ 40) : ∀ (d k : Nat) (i : Int), 0 ≤ i → i + d = l.length → d < k → monticulelaw18_small.l0 k l i = some ((l.drop i.toNat).all fun x => decide (x.f4.length ≤ 9000))
  | 0, k, i, h0, hd, hk => by
    obtain ⟨m, rfl⟩ : ∃ m, k = m + 1 := ⟨k - 1, by omega⟩
    simp only [monticulelaw18_small.l0]
    rw [if_neg (by omega), List.drop_of_length_le (by omega)]
    rfl
  | d + 1, k, i, h0, hd, hk => by
    obtain ⟨m, rfl⟩ : ∃ m, k = m + 1 := ⟨k - 1, by omega⟩
    simp only [monticulelaw18_small.l0]
    rw [if_pos (by omega), if_pos h0, drop58 l i h0 (by omega), List.all_cons, w64_next h0 (n := l.length) (by omega) (by omega)]
    by_cases e : (((rd_T58 l i).f4.length : Nat) : Int) > 9000
    · rw [if_pos e, decide_eq_false (show ¬ (rd_T58 l i).f4.length ≤ 9000 by omega), Bool.false_and]
    · rw [if_neg e, decide_eq_true (show (rd_T58 l i).f4.length ≤ 9000 by omega), Bool.true_and]
      exact smallA_l0 l hl d m (i + 1) (by omega) (by omega) (by omega)
theorem smallA_val (l : List S58) : monticulelaw18_small.f 100 l = some (smallA l) := by
  unfold monticulelaw18_small.f smallA
  by_cases e : (l.length : Int) > 40
  · rw [if_pos e, decide_eq_false (show ¬ l.length ≤ 40 by omega), Bool.false_and]
  · rw [if_neg e, decide_eq_true (show l.length ≤ 40 by omega), Bool.true_and]
    exact smallA_l0 l (by omega) l.length 100 0 (by omega) (by omega) (by omega)
theorem smallA_in {l : List S58} (h : smallA l = true) : l.length ≤ 40 ∧ ∀ x ∈ l, x.f4.length ≤ 9000 := by
  unfold smallA at h
  rw [Bool.and_eq_true, decide_eq_true_eq, List.all_eq_true] at h
  exact ⟨h.1, fun x hx => of_decide_eq_true (h.2 x hx)⟩
def I64 (a : Int) : Prop := -9223372036854775808 ≤ a ∧ a ≤ 9223372036854775807
def ActsW (L : List S58) : Prop := ∀ x ∈ L, I64 x.f0 ∧ W64 x.f1 ∧ W64 x.f2 ∧ I64 x.f3
/-- What an act leaves of a heap's objects. -/
def actL (l : List S53) (o wd : Int) (x : S58) : List S53 :=
  if x.f0 = 0 then makeL l o wd (usedL l) x.f1 x.f3 x.f4 else if x.f0 = 1 then setL l x.f1 x.f3 x.f2 else if x.f0 = 2 then setCL l x.f1 x.f2 else l
theorem HeapOk.act {l : List S53} {o wd : Int} (h : HeapOk l o wd) {x : S58} (hx : W64 x.f1 ∧ W64 x.f2) : HeapOk (actL l o wd x) o wd := by
  unfold actL
  by_cases h0 : x.f0 = 0
  · rw [if_pos h0]; exact (h.made hx.1).1
  · rw [if_neg h0]
    by_cases h1 : x.f0 = 1
    · rw [if_pos h1]; exact (h.setted hx.1 hx.2).1
    · rw [if_neg h1]
      by_cases h2 : x.f0 = 2
      · rw [if_pos h2]; exact (h.settedC hx.1 hx.2).1
      · rw [if_neg h2]; exact h
end Go.Proofs.Ytiokegmpooildaa.Hp
