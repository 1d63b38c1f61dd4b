/- NameJoins' plain statement: which selector any parts make; a selector's parts make it. -/
import Derived.Test.YtjloioalhgifbaaDoorPAllx11
import Derived.Test.YtjloioalhgifbaaDoorPd
namespace Go.Proofs.YtjloioalhgifbaaDoor.PAll
open Go.RowKit Go.Proofs.YtjloioalhgifbaaDoorW.PrintWords Go.Proofs.YtjloioalhgifbaaDoorW.PrintLast
theorem join_flat (l : List (List UInt8)) : Lib.join l [] = l.flatten := by
  cases l with
  | nil => rfl
  | cons x r =>
    rw [Lib.join_cons, List.flatten_cons]
    unfold Lib.joinTail
    rw [show (r.map fun y => ([] : List UInt8) ++ y) = r from (List.map_congr_left (fun y _ => List.nil_append y)).trans (List.map_id _)]
/-- The texts, one behind the other. -/
def flatB (l : List ByteArray) : ByteArray := mkB (l.map BL).flatten
def joinN (l : List ByteArray) : ByteArray := if (Nm.partsN (BL (flatB l))).map mkB = l then flatB l else noB
theorem Join_val (l : List ByteArray) (hl : l.length ≤ 140737488355328) (hf : (flatB l).size < 4294967281) : Ev (fun k => name_Join.f k l) (joinN l) := by
  have hj : strings_Join.f l (⟨#[]⟩ : ByteArray) = some (flatB l) := by
    unfold strings_Join.f
    have e : Lib.join (l.map (·.data.toList)) (⟨#[]⟩ : ByteArray).data.toList = (l.map BL).flatten := join_flat _
    rw [e, if_pos]
    · rfl
    · rw [Bool.and_eq_true, decide_eq_true_eq, decide_eq_true_eq]
      refine ⟨hl, ?_⟩
      have h2 := BL_len (flatB l)
      rw [show BL (flatB l) = (l.map BL).flatten from rfl] at h2
      omega
  have hp := partsN_len (BL (flatB l))
  obtain ⟨K, hE⟩ := ev_out (Equal_val ((Nm.partsN (BL (flatB l))).map mkB) l (by rw [List.length_map]; exact hp))
  refine ev_mk K (fun k hk => ?_)
  unfold name_Join.f joinN
  rw [hj, Option.bind_some, Parts_val _ hf, Option.bind_some, hE k hk, Option.bind_some]
  by_cases h : (Nm.partsN (BL (flatB l))).map mkB = l
  · rw [if_pos (decide_eq_true h), if_pos h]
  · rw [if_neg (by rw [decide_eq_false h]; decide), if_neg h]
theorem flatB_append (a b : List ByteArray) : flatB (a ++ b) = flatB a ++ flatB b := by
  apply BL_inj
  unfold flatB
  rw [List.map_append, List.flatten_append]
  show _ = (mkB (a.map BL).flatten ++ mkB (b.map BL).flatten).data.toList
  simp [mkB]
theorem kwGo_flat : ∀ (l cur : List UInt8) (ps : List (List UInt8)), Nm.kwGo cur l = some ps → ps.flatten = cur ++ l
  | [], cur, ps, h => by
    unfold Nm.kwGo at h
    split at h
    · rename_i e; subst e; obtain rfl := Option.some.inj h; rfl
    · cases h
  | b :: r, cur, ps, h => by
    unfold Nm.kwGo at h
    split at h
    · rename_i e
      split at h
      · obtain ⟨qs, hq, rfl⟩ := Option.map_eq_some_iff.1 h
        rw [List.flatten_cons, kwGo_flat r [] qs hq, e, List.nil_append, List.append_assoc, List.singleton_append]
      · cases h
    · rw [kwGo_flat r _ ps h, List.append_assoc, List.singleton_append]
theorem kwN_flat (l : List UInt8) (h : Nm.kwN l ≠ []) : (Nm.kwN l).flatten = l := by
  unfold Nm.kwN at h ⊢
  cases e : Nm.kwGo [] l with
  | none => rw [e] at h; exact absurd rfl h
  | some ps =>
    rw [e] at h
    by_cases h10 : ps.length ≤ 10
    · show (if ps.length ≤ 10 then ps else []).flatten = l
      rw [if_pos h10, kwGo_flat l [] ps e, List.nil_append]
    · exact absurd (if_neg h10) h
theorem kind3 {l : List UInt8} (h : Nm.kindN l = 3) : Nm.kwN l ≠ [] := by
  unfold Nm.kindN at h
  split at h
  · cases h
  · split at h
    · cases h
    · split at h
      · assumption
      · cases h
theorem parts_flat (l : List UInt8) (h : Nm.kindN l ≠ 0) : (Nm.partsN l).flatten = l := by
  unfold Nm.partsN
  rw [if_neg h]
  by_cases h3 : Nm.kindN l = 3
  · rw [if_pos h3]; exact kwN_flat l (kind3 h3)
  · rw [if_neg h3]; simp
theorem flat_parts (s : ByteArray) (h : Nm.kindN (BL s) ≠ 0) : flatB ((Nm.partsN (BL s)).map mkB) = s := by
  apply BL_inj
  show (((Nm.partsN (BL s)).map mkB).map BL).flatten = BL s
  rw [List.map_map, show (BL ∘ mkB) = id from rfl, List.map_id, parts_flat _ h]
theorem flat_take_size (l : List ByteArray) (n : Nat) (h : ∀ x ∈ l, x.size ≤ 100) (hl : l.length ≤ n) : (flatB l).size ≤ 100 * n := by
  rw [← BL_len]
  show ((l.map BL).flatten).length ≤ _
  induction l generalizing n with
  | nil => simp
  | cons x r ih =>
    have h1 := h x List.mem_cons_self
    cases n with
    | zero => simp at hl
    | succ n =>
      have h2 := ih n (fun y hy => h y (List.mem_cons_of_mem _ hy)) (by simpa using hl)
      rw [List.map_cons, List.flatten_cons, List.length_append, BL_len]
      omega
theorem Joins_j2 (l : List ByteArray) (hl : l.length ≤ 20) (hz : ∀ x ∈ l, x.size ≤ 100) : Ev (fun k => monticulelaw06_NameJoins.j2 k l (flatB l) (joinN l)) true := by
  have hfl := flat_take_size l 20 hz hl
  obtain ⟨K1, h1⟩ := ev_out (Join_val l (by omega) (by omega))
  have hp := partsN_len (BL (flatB l))
  by_cases h0 : Nm.kindN (BL (flatB l)) = 0
  · refine ev_mk1 K1 (fun m hm => ?_)
    rw [monticulelaw06_NameJoins.j2, h1 m hm, Option.bind_some, if_pos rfl, Kind_val _ (by omega), Option.bind_some, if_pos h0]
  · have hfp := flat_parts (flatB l) h0
    obtain ⟨K2, h2⟩ := ev_out (Join_val ((Nm.partsN (BL (flatB l))).map mkB) (by rw [List.length_map]; exact hp) (by rw [hfp]; omega))
    refine ev_mk1 (max K1 K2) (fun m hm => ?_)
    rw [monticulelaw06_NameJoins.j2, h1 m (by omega), Option.bind_some, if_pos rfl, Kind_val _ (by omega), Option.bind_some, if_neg h0, Parts_val _ (by omega), Option.bind_some, h2 m (by omega), Option.bind_some]
    have e : joinN ((Nm.partsN (BL (flatB l))).map mkB) = flatB l := by
      unfold joinN
      rw [hfp, if_pos rfl]
    rw [e]; simp
theorem Joins_l0 (l : List ByteArray) (hl : l.length ≤ 20) : ∀ (d i : Nat), l.length - i = d → i ≤ l.length → (∀ x ∈ l.take i, x.size ≤ 100) → Ev (fun k => monticulelaw06_NameJoins.l0 k l (flatB (l.take i)) (i : Int)) true
  | 0, i, hd, hi, hz => by
    have ei : l.take i = l := List.take_of_length_le (by omega)
    rw [ei] at hz ⊢
    have hfl := flat_take_size l 20 hz hl
    have hp := partsN_len (BL (flatB l))
    obtain ⟨K1, h1⟩ := ev_out (refParts_val (flatB l) (by omega))
    obtain ⟨K2, h2⟩ := ev_out (Same_val ((Nm.partsN (BL (flatB l))).map mkB) l (by rw [List.length_map]; exact hp))
    obtain ⟨K3, h3⟩ := ev_out (Joins_j2 l hl hz)
    refine ev_mk1 (max K1 (max K2 K3)) (fun m hm => ?_)
    have hj := h3 m (by omega)
    rw [monticulelaw06_NameJoins.l0, if_neg (by omega), h1 m (by omega), Option.bind_some, h2 m (by omega), Option.bind_some]
    unfold joinN at hj
    by_cases h : (Nm.partsN (BL (flatB l))).map mkB = l
    · rw [if_pos h] at hj
      rw [if_pos (decide_eq_true h)]; exact hj
    · rw [if_neg h] at hj
      rw [if_neg (by rw [decide_eq_false h]; decide)]; exact hj
  | d + 1, i, hd, hi, hz => by
    have hlt : i < l.length := by omega
    have hw : wrap64 ((i : Int) + 1) = ((i + 1 : Nat) : Int) := wrap_succ (by omega) (show (i : Int) < (l.length : Int) by omega) (by omega)
    by_cases h1 : (l[i]).size > 100
    · refine Ev.step (f := fun _ => some true) (fun k => ?_) (Ev.now _)
      rw [monticulelaw06_NameJoins.l0, if_pos (by omega), if_pos (by omega), rdOf_get l i hlt, if_pos (by omega)]
    · have ht : l.take (i + 1) = l.take i ++ [l[i]] := List.take_succ_eq_append_getElem hlt
      have hz2 : ∀ x ∈ l.take (i + 1), x.size ≤ 100 := by
        intro x hx
        rw [ht, List.mem_append, List.mem_singleton] at hx
        rcases hx with hx | rfl
        · exact hz x hx
        · omega
      have hfl := flat_take_size (l.take i) 20 hz (by rw [List.length_take]; omega)
      obtain ⟨K, ih⟩ := ev_out (Joins_l0 l hl d (i + 1) (by omega) (by omega) hz2)
      refine ev_mk1 K (fun m hm => ?_)
      have ih2 := ih m hm
      have e1 : flatB [l[i]] = l[i] := by
        unfold flatB
        rw [List.map_singleton, List.flatten_singleton, mk_BL]
      rw [ht, flatB_append, e1] at ih2
      rw [monticulelaw06_NameJoins.l0, if_pos (by omega), if_pos (by omega), rdOf_get l i hlt, if_neg (by omega), if_pos (by omega), hw]
      exact ih2
end Go.Proofs.YtjloioalhgifbaaDoor.PAll
namespace Go.Proofs.YtjloioalhgifbaaDoor.Pure
open Go.RowKit Go.Proofs.YtjloioalhgifbaaDoor.PAll Go.Proofs.YtjloioalhgifbaaDoorW.PrintWords Go.Proofs.YtjloioalhgifbaaDoorW.PrintLast
theorem NameJoins (l : List ByteArray) : ∃ k, monticulelaw06_NameJoins.f k l = some true := by
  refine Ev.rounds (Ev.congr (f := fun k => monticulelaw06_NameJoins.j0 k l (decide ((l.length : Int) > 20))) (fun k => by unfold monticulelaw06_NameJoins.f; rw [awake06_val, Option.bind_some, if_pos rfl]) ?_)
  by_cases h6 : (l.length : Int) > 20
  · refine Ev.step (f := fun _ => some true) (fun k => ?_) (Ev.now _)
    rw [monticulelaw06_NameJoins.j0, if_pos (decide_eq_true h6), awake06_val, Option.bind_some]
  · refine Ev.step (fun k => ?_) (Joins_l0 l (by omega) _ 0 rfl (Nat.zero_le _) (fun x hx => by cases hx))
    rw [monticulelaw06_NameJoins.j0, if_neg (by rw [decide_eq_false h6]; decide)]
    rfl
end Go.Proofs.YtjloioalhgifbaaDoor.Pure
