/- PlanSound's plain statement: whatever is planned, each package comes once, behind its needs; where none is planned, some need one another. -/
import Derived.Test.YtgfdcakeplamnaaDoorPAllx7
import Derived.Test.YtgfdcakeplamnaaDoorPAllx5
import Derived.Test.YtgfdcakeplamnaaDoorPAllx4
import Derived.Test.YtgfdcakeplamnaaDoorPh
namespace Go.Proofs.YtgfdcakeplamnaaDoor.Pure
open Go.RowKit Go.Proofs.YtgfdcakeplamnaaDoor.PAll Go.Proofs.YtgfdcakeplamnaaDoorW.PrintWords Go.Proofs.YtgfdcakeplamnaaDoorW.PrintLast Go.Proofs.YtgfdcakeplamnaaDoor.PAll.Hd
set_option linter.unusedVariables false
theorem awake28 : Ev (fun k => monticulelaw28_awake.f k) true := Ev.of (fun k => monticulelaw28_awake.mono k) (k := 70) (by kernel_rfl)
theorem rd_get {l : List Int} {i : Nat} (hi : i < l.length) : rd l (i : Int) = l[i] := by
  unfold rd
  rw [Int.toNat_natCast, List.getD_eq_getElem?_getD, List.getElem?_eq_getElem hi]
  rfl
theorem seq_len (th : List ByteArray) (ps : List S34) (seq : List Int) (hth : th.length ≤ 20) (hps : ps.length ≤ 8) (hs : ∀ p ∈ ps, SmallP p) (hperm : seq.Perm (nums ps.length)) : seq.length = ps.length := hperm.length_eq.trans (nums_len _)
theorem seq_in (th : List ByteArray) (ps : List S34) (seq : List Int) (hth : th.length ≤ 20) (hps : ps.length ≤ 8) (hs : ∀ p ∈ ps, SmallP p) (hperm : seq.Perm (nums ps.length)) {a : Int} (h : a ∈ seq) : 0 ≤ a ∧ a < (ps.length : Int) := mem_nums.1 (hperm.subset h)
theorem ps_at (th : List ByteArray) (ps : List S34) (seq : List Int) (hth : th.length ≤ 20) (hps : ps.length ≤ 8) (hs : ∀ p ∈ ps, SmallP p) (hperm : seq.Perm (nums ps.length)) {a : Int} (h : 0 ≤ a ∧ a < (ps.length : Int)) : rd_T34 ps a ∈ ps := by
  unfold rd_T34
  rw [List.getD_eq_getElem?_getD, List.getElem?_eq_getElem (show a.toNat < ps.length by omega)]
  exact List.getElem_mem _
def dn (th : List ByteArray) (ps : List S34) (seq : List Int) (i : Nat) : List ByteArray := th ++ (seq.take i).map (nameP ps)
theorem dn_succ (th : List ByteArray) (ps : List S34) (seq : List Int) {i : Nat} (hi : i < seq.length) : dn th ps seq (i + 1) = dn th ps seq i ++ [nameP ps seq[i]] := by
  unfold dn
  rw [List.take_succ_eq_append_getElem hi, List.map_append, List.append_assoc]
  rfl
theorem dn_len (th : List ByteArray) (ps : List S34) (seq : List Int) (hth : th.length ≤ 20) (hps : ps.length ≤ 8) (hs : ∀ p ∈ ps, SmallP p) (hperm : seq.Perm (nums ps.length)) (i : Nat) : (dn th ps seq i).length ≤ 28 := by
  have := seq_len th ps seq hth hps hs hperm
  unfold dn
  rw [List.length_append, List.length_map, List.length_take]
  omega
theorem l4_ok (th : List ByteArray) (ps : List S34) (seq : List Int) (hth : th.length ≤ 20) (hps : ps.length ≤ 8) (hs : ∀ p ∈ ps, SmallP p) (hperm : seq.Perm (nums ps.length)) (i : Nat) (hi : i < seq.length) (f0 : ByteArray) (f1 : Int) (f2 : List ByteArray) (f3 : List S68) (hf0 : f0 = nameP ps seq[i])
    (hnext : Ev (fun k => monticulelaw28_PlanSound.l2 k ps seq (dn th ps seq (i + 1)) ((i + 1 : Nat) : Int)) true) :
    ∀ (d j : Nat), i - j = d → j ≤ i → Ev (fun k => monticulelaw28_PlanSound.l4 k ps seq (dn th ps seq i) (i : Int) (j : Int) f0 f1 f2 f3) true := by
  have hl := seq_len th ps seq hth hps hs hperm
  intro d
  induction d with
  | zero =>
    intro j hd hj
    obtain rfl : j = i := by omega
    refine Ev.step (fun k => ?_) hnext
    rw [monticulelaw28_PlanSound.l4, if_neg (by omega), if_pos (by have := dn_len th ps seq hth hps hs hperm j; omega), hf0, ← dn_succ th ps seq hi, w64 hi (by omega)]
  | succ d ih =>
    intro j hd hj
    have hji : j < i := by omega
    have hne : ¬ rd seq (j : Int) = rd seq (i : Int) := by
      rw [rd_get hi, rd_get (show j < seq.length by omega)]
      intro e
      have hnd : seq.Nodup := hperm.nodup_iff.2 (nums_nodup _)
      exact absurd ((List.getElem_inj hnd).1 e) (by omega)
    refine Ev.step (fun k => ?_) (ih (j + 1) (by omega) (by omega))
    rw [monticulelaw28_PlanSound.l4, if_pos (by omega), if_pos (by omega), if_pos (by omega), if_pos (by omega), if_pos (by omega), if_neg hne, w64 (show j < seq.length by omega) (by omega)]
theorem l3_ok (th : List ByteArray) (ps : List S34) (seq : List Int) (hth : th.length ≤ 20) (hps : ps.length ≤ 8) (hs : ∀ p ∈ ps, SmallP p) (hperm : seq.Perm (nums ps.length)) (i : Nat) (hi : i < seq.length) (f0 : ByteArray) (f1 : Int) (f2 : List ByteArray) (f3 : List S68) (hf0 : f0 = nameP ps seq[i]) (hf2 : f2.length ≤ 1000) (hin : ∀ m ∈ f2, m ∈ dn th ps seq i)
    (hnext : Ev (fun k => monticulelaw28_PlanSound.l2 k ps seq (dn th ps seq (i + 1)) ((i + 1 : Nat) : Int)) true) :
    ∀ (d j : Nat), f2.length - j = d → j ≤ f2.length → Ev (fun k => monticulelaw28_PlanSound.l3 k ps seq (dn th ps seq i) (i : Int) (j : Int) f0 f1 f2 f3) true := by
  intro d
  induction d with
  | zero =>
    intro j hd hj
    refine Ev.step (fun k => ?_) (l4_ok th ps seq hth hps hs hperm i hi f0 f1 f2 f3 hf0 hnext i 0 (by omega) (Nat.zero_le _))
    rw [monticulelaw28_PlanSound.l3, if_neg (by omega)]
    rfl
  | succ d ih =>
    intro j hd hj
    have hlt : j < f2.length := by omega
    have hv := refIn_val (dn th ps seq i) f2[j] (by have := dn_len th ps seq hth hps hs hperm i; omega)
    rw [(inB_iff _ _).2 (hin _ (List.getElem_mem hlt))] at hv
    refine Ev.step (f := fun k => (monticuleref06_In.f k (dn th ps seq i) f2[j]).bind fun t224 => (if t224 = true then (monticulelaw28_PlanSound.l3 k ps seq (dn th ps seq i) (i : Int) ((j + 1 : Nat) : Int) f0 f1 f2 f3) else (some false))) (fun k => ?_) (Ev.bind hv (Ev.congr (fun k => if_pos rfl) (ih (j + 1) (by omega) (by omega))))
    rw [monticulelaw28_PlanSound.l3, if_pos (by omega), if_pos (by omega), rdOf_get f2 j hlt, w64 hlt (by omega)]
theorem okSeq_at (ps : List S34) : ∀ (s : List Int), OkSeq ps s → ∀ (i : Nat) (hi : i < s.length), ∀ q ∈ s.drop i, nameP ps q ∉ (rd_T34 ps s[i]).f2
  | [], _, i, hi => absurd hi (Nat.not_lt_zero _)
  | a :: s, h, 0, hi => fun q hq => h.1 q hq
  | a :: s, h, i + 1, hi => fun q hq => okSeq_at ps s h.2 i (by simpa using hi) q hq
theorem l2_ok (th : List ByteArray) (ps : List S34) (seq : List Int) (hth : th.length ≤ 20) (hps : ps.length ≤ 8) (hs : ∀ p ∈ ps, SmallP p) (hperm : seq.Perm (nums ps.length)) (hok : OkSeq ps seq) (hneeds : ∀ p ∈ ps, ∀ m ∈ p.f2, m ∈ th ∨ m ∈ ps.map fun p => p.f0) :
    ∀ (d i : Nat), seq.length - i = d → i ≤ seq.length → Ev (fun k => monticulelaw28_PlanSound.l2 k ps seq (dn th ps seq i) (i : Int)) true := by
  have hl := seq_len th ps seq hth hps hs hperm
  intro d
  induction d with
  | zero =>
    intro i hd hi
    refine Ev.step (f := fun _ => some true) (fun k => ?_) (Ev.now _)
    rw [monticulelaw28_PlanSound.l2, if_neg (by omega), hl, beq_self_eq_true]
  | succ d ih =>
    intro i hd hi
    have hlt : i < seq.length := by omega
    have ha := seq_in th ps seq hth hps hs hperm (List.getElem_mem hlt)
    have hps_a := ps_at th ps seq hth hps hs hperm ha
    have hin : ∀ m ∈ (rd_T34 ps seq[i]).f2, m ∈ dn th ps seq i := by
      intro m hm
      unfold dn
      rcases hneeds _ hps_a m hm with h | h
      · exact List.mem_append.2 (Or.inl h)
      · obtain ⟨p, hp, rfl⟩ := List.mem_map.1 h
        obtain ⟨j, hj, rfl⟩ := List.getElem_of_mem hp
        have hjs : (j : Int) ∈ seq := hperm.symm.subset (mem_nums.2 ⟨by omega, by omega⟩)
        have hjn : nameP ps (j : Int) = (ps[j]).f0 := by unfold nameP; rw [rd34 ps j hj]
        refine List.mem_append.2 (Or.inr (List.mem_map.2 ⟨(j : Int), ?_, hjn⟩))
        rw [← List.take_append_drop i seq] at hjs
        rcases List.mem_append.1 hjs with h1 | h1
        · exact h1
        · exact absurd (by rw [hjn]; exact hm) (okSeq_at ps seq hok i hlt _ h1)
    have h3 := l3_ok th ps seq hth hps hs hperm i hlt (rd_T34 ps seq[i]).f0 (rd_T34 ps seq[i]).f1 (rd_T34 ps seq[i]).f2 (rd_T34 ps seq[i]).f3 rfl (by have := (hs _ hps_a).2.1; omega) hin (ih (i + 1) (by omega) (by omega)) _ 0 rfl (Nat.zero_le _)
    have h4 : Ev (fun k => monticulelaw28_PlanSound.j4 k ps seq (dn th ps seq i) (i : Int) false) true := by
      refine Ev.step (fun k => ?_) h3
      rw [monticulelaw28_PlanSound.j4, if_neg (by decide), if_pos (by omega), if_pos (by omega), rd_get hlt, if_pos ha.1, if_pos ha.2]
      rfl
    refine Ev.step (fun k => ?_) h4
    have hb : ((seq.length : Int) != (ps.length : Int)) = false := by rw [hl]; exact bne_self_eq_false _
    rw [monticulelaw28_PlanSound.l2, if_pos (by omega), if_pos (by omega), rd_get hlt, if_neg (by omega), if_neg (by omega), hb]
    split <;> rfl
/-- A stuck plan: its first package has needs. -/
theorem l1_ok (ps : List S34) (hps : ps.length ≤ 8) (hs : ∀ p ∈ ps, SmallP p) (a : Nat) (ha : a < ps.length) (n : ByteArray) (hn : n = (ps[a]).f0) (hne : (ps[a]).f2 ≠ []) (t : Nat) (ht : t < 10)
    (hnext : ∀ names : List ByteArray, n ∈ names → 1 < names.length → names.length ≤ 1 + 240 * (t + 1) → Ev (fun k => monticulelaw28_PlanSound.l0 k ps n names ((t + 1 : Nat) : Int)) true) :
    ∀ (d j : Nat), ps.length - j = d → j ≤ ps.length → ∀ names : List ByteArray, n ∈ names → names.length ≤ 1 + 240 * t + 30 * j → (1 ≤ names.length) → (a < j → 1 < names.length) →
      Ev (fun k => monticulelaw28_PlanSound.l1 k ps n names (t : Int) (j : Int)) true := by
  intro d
  induction d with
  | zero =>
    intro j hd hj names hin hlen h1 hj1
    obtain rfl : j = ps.length := by omega
    refine Ev.step (fun k => ?_) (hnext names hin (hj1 ha) (by omega))
    rw [monticulelaw28_PlanSound.l1, if_neg (by omega), w64 ht (by omega)]
  | succ d ih =>
    intro j hd hj names hin hlen h1 hj1
    have hlt : j < ps.length := by omega
    have hsm := (hs _ (List.getElem_mem hlt)).2.1
    have hv := refIn_val names (ps[j]).f0 (by omega)
    have hstep : ∀ k, monticulelaw28_PlanSound.l1 (k + 1) ps n names (t : Int) (j : Int) = (monticuleref06_In.f k names (ps[j]).f0).bind fun t207 => (if t207 = true then (if names.length + (ps[j]).f2.length < 8796093022208 then (monticulelaw28_PlanSound.l1 k ps n (names ++ (ps[j]).f2) (t : Int) ((j + 1 : Nat) : Int)) else (none)) else (monticulelaw28_PlanSound.l1 k ps n names (t : Int) ((j + 1 : Nat) : Int))) := fun k => by
      rw [monticulelaw28_PlanSound.l1, if_pos (by omega), if_pos (by omega), rd34 ps j hlt, w64 hlt (by omega)]
    cases c : inB names (ps[j]).f0 with
    | true =>
      rw [c] at hv
      refine Ev.step hstep (Ev.bind hv (Ev.congr (fun k => by rw [if_pos rfl, if_pos (by omega)]) (ih (j + 1) (by omega) (by omega) (names ++ (ps[j]).f2) (List.mem_append.2 (Or.inl hin)) (by rw [List.length_append]; omega) (by rw [List.length_append]; omega) (fun h => ?_))))
      rw [List.length_append]
      by_cases hja : j = a
      · subst hja
        have : 0 < (ps[j]).f2.length := List.length_pos_iff.2 hne
        omega
      · have := hj1 (by omega)
        omega
    | false =>
      rw [c] at hv
      refine Ev.step hstep (Ev.bind hv (Ev.congr (fun k => if_neg (by decide)) (ih (j + 1) (by omega) (by omega) names hin (by omega) h1 (fun h => ?_))))
      by_cases hja : j = a
      · subst hja
        rw [hn] at hin
        have := (inB_iff _ _).2 hin
        rw [c] at this
        cases this
      · exact hj1 (by omega)
theorem l0_ok (ps : List S34) (hps : ps.length ≤ 8) (hs : ∀ p ∈ ps, SmallP p) (a : Nat) (ha : a < ps.length) (n : ByteArray) (hn : n = (ps[a]).f0) (hne : (ps[a]).f2 ≠ []) :
    ∀ (d t : Nat), 10 - t = d → t ≤ 10 → ∀ names : List ByteArray, n ∈ names → names.length ≤ 1 + 240 * t → 1 ≤ names.length → (0 < t → 1 < names.length) → Ev (fun k => monticulelaw28_PlanSound.l0 k ps n names (t : Int)) true := by
  intro d
  induction d with
  | zero =>
    intro t hd ht names hin hlen h1 h2
    obtain rfl : t = 10 := by omega
    have hl := h2 (by decide)
    have hv := refIn_val (names.drop 1) n (by rw [List.length_drop]; omega)
    refine Ev.step (f := fun k => (monticuleref06_In.f k (names.drop 1) n).bind fun t205 => (if t205 = true then (some true) else (some (decide ((names.length : Int) > 1))))) (fun k => ?_) (Ev.bind hv (Ev.congr (f := fun _ => some true) (fun k => ?_) (Ev.now _)))
    · rw [monticulelaw28_PlanSound.l0, if_neg (by omega), if_pos (by omega)]
    · split
      · rfl
      · rw [decide_eq_true (by omega)]
  | succ d ih =>
    intro t hd ht names hin hlen h1 h2
    have h := l1_ok ps hps hs a ha n hn hne t (by omega) (fun names' hin' hl' hlen' => ih (t + 1) (by omega) (by omega) names' hin' (by omega) (by omega) (fun _ => hl')) ps.length 0 (by omega) (Nat.zero_le _) names hin (by omega) h1 (fun h => absurd h (Nat.not_lt_zero _))
    refine Ev.step (fun k => ?_) h
    rw [monticulelaw28_PlanSound.l0, if_pos (by omega)]
    rfl
theorem PlanSound (th : List ByteArray) (ps : List S34) : ∃ k, monticulelaw28_PlanSound.f k th ps = some true := by
  have haw := awake28
  have hjt : Ev (fun k => monticulelaw28_PlanSound.j0 k th ps true) true := Ev.step (fun k => by rw [monticulelaw28_PlanSound.j0, if_pos rfl]) (Ev.bind haw (Ev.now true))
  have hmain : Ev (fun k => monticulelaw28_PlanSound.f k th ps) true := by
    obtain ⟨b1, hb1, hf1⟩ := few_tot th
    obtain ⟨b2, hb2, hf2⟩ := few28_tot ps 8 (by decide)
    have hf : ∀ k, monticulelaw28_PlanSound.f k th ps = (monticulelaw28_awake.f k).bind fun t189 => (if t189 = true then ((monticulelaw28_few.f k th).bind fun t190 => (if t190 = true then ((monticuleref28_Few.f k ps ((8 : Nat) : Int)).bind fun t191 => (monticulelaw28_PlanSound.j0 k th ps (!t191))) else (monticulelaw28_PlanSound.j0 k th ps true))) else (monticulelaw28_PlanSound.j0 k th ps true)) := fun k => by unfold monticulelaw28_PlanSound.f; rfl
    cases b1 with
    | false => exact Ev.congr hf (Ev.bind haw (Ev.congr (fun k => if_pos rfl) (Ev.bind hb1 (Ev.congr (fun k => if_neg (by decide)) hjt))))
    | true =>
      cases b2 with
      | false => exact Ev.congr hf (Ev.bind haw (Ev.congr (fun k => if_pos rfl) (Ev.bind hb1 (Ev.congr (fun k => if_pos rfl) (Ev.bind hb2 hjt)))))
      | true =>
        obtain ⟨hth, _⟩ := hf1 rfl
        obtain ⟨hps, hs⟩ := hf2 rfl
        obtain ⟨r, hr, hok⟩ := order_tot th ps (by omega) (by omega) hs
        have hj : Ev (fun k => monticulelaw28_PlanSound.j0 k th ps false) true := by
          have hstep : ∀ k, monticulelaw28_PlanSound.j0 (k + 1) th ps false = (plan_Order.f k th ps).bind fun bt193 => (if bt193.2.1 = 71 then (monticulelaw28_PlanSound.l0 k ps bt193.2.2 (([bt193.2.2] : List ByteArray)) 0) else (if bt193.2.1 = 0 then ((some (([] : List ByteArray) : List ByteArray)).bind fun y212 => (if y212.length + th.length < 8796093022208 then (monticulelaw28_PlanSound.l2 k ps bt193.1 (y212 ++ th) 0) else (none))) else (some ((bt193.1.length : Int) == 0)))) := fun k => by
            rw [monticulelaw28_PlanSound.j0, if_neg (by decide)]
          refine Ev.step hstep (Ev.bind hr ?_)
          rcases hok with ⟨h0, hp, hseq, hnd, hneeds⟩ | ⟨h71, h1, a, ha, hna, hne⟩ | ⟨h0, h71, h1⟩
          · refine Ev.congr (fun k => ?_) (l2_ok th ps r.1 hth hps hs hp hseq hneeds _ 0 rfl (Nat.zero_le _))
            rw [if_neg (by omega), if_pos h0, Option.bind_some, if_pos (by simp only [List.length_nil]; omega), List.nil_append]
            unfold dn
            rw [List.take_zero, List.map_nil, List.append_nil]
            rfl
          · obtain ⟨i, hi, rfl⟩ := List.mem_map.1 ha
            have hi := List.mem_range.1 hi
            rw [rd34 ps i hi] at hne
            have hn : r.2.2 = (ps[i]).f0 := by rw [hna]; unfold nameP; rw [rd34 ps i hi]
            refine Ev.congr (fun k => if_pos h71) (l0_ok ps hps hs i hi r.2.2 hn hne 10 0 rfl (Nat.zero_le _) [r.2.2] (List.mem_singleton.2 rfl) (by simp) (by simp) (fun h => absurd h (Nat.not_lt_zero _)))
          · exact Ev.congr (f := fun _ => some true) (fun k => by rw [if_neg h71, if_neg h0, h1]; rfl) (Ev.now _)
        exact Ev.congr hf (Ev.bind haw (Ev.congr (fun k => if_pos rfl) (Ev.bind hb1 (Ev.congr (fun k => if_pos rfl) (Ev.bind hb2 hj)))))
  obtain ⟨K, h⟩ := ev_out hmain
  exact ⟨K, h K (Nat.le_refl _)⟩
end Go.Proofs.YtgfdcakeplamnaaDoor.Pure
