/- The plain values of the definitions' printed functions (rightness, keys, sameness, the parts of a key). -/
import Derived.Test.YtjloioalhgifbaaDoorPAllx5
import Derived.Test.YtjloioalhgifbaaDoorPAllx6
import Derived.Test.YtjloioalhgifbaaDoorPAllx8
import Derived.Test.YtjloioalhgifbaaDoorPAllx7
import Derived.Test.YtjloioalhgifbaaDoorPAllx9
import Derived.Test.YtjloioalhgifbaaDoorPk
namespace Go.Proofs.YtjloioalhgifbaaDoor.PAll
open Go.RowKit Go.Proofs.YtjloioalhgifbaaDoorW.PrintWords Go.Proofs.YtjloioalhgifbaaDoorW.PrintLast
set_option linter.unusedVariables false
set_option linter.unusedSimpArgs false
abbrev noB : ByteArray := ⟨#[]⟩
theorem toList_nil (s : ByteArray) : (s.toList = ([] : List UInt8)) ↔ s = noB := by
  rw [toList_BL]
  constructor
  · intro h; exact BL_inj h
  · rintro rfl; rfl
theorem toList_eq (s t : ByteArray) : (s.toList = t.toList) ↔ s = t := by
  rw [toList_BL, toList_BL]
  exact ⟨BL_inj, fun h => by rw [h]⟩
theorem beq_nil (s : ByteArray) : (s.toList == ([] : List UInt8)) = decide (s = noB) := by
  rw [Bool.eq_iff_iff, beq_iff_eq, decide_eq_true_eq]; exact toList_nil s
/-- Is the variable at a place one, and another than those ahead? -/
def varAt (l : List ByteArray) (i : Nat) : Bool := varB (l.getD i noB) && !(inB (l.take i) (l.getD i noB))
def varsAll (l : List ByteArray) : Bool := (List.range' 0 l.length).all (varAt l)
theorem rdOf_getD (l : List ByteArray) (i : Nat) : rdOf ByteArray.empty l (i : Int) = l.getD i noB := rfl
theorem vars_l0 (l : List ByteArray) (hl : l.length ≤ 140737488355328) : ∀ (d i : Nat), l.length - i = d → i ≤ l.length → Ev (fun k => def_vars.l0 k l l (l.length : Int) (i : Int)) ((List.range' i d).all (varAt l) && decide (l.length ≤ 20))
  | 0, i, hd, hi => by
    refine Ev.step (f := fun _ => some (decide ((l.length : Int) ≤ 20))) (fun k => ?_) ?_
    · rw [def_vars.l0, if_neg (by omega)]
    · rw [List.range'_zero, List.all_nil, Bool.true_and, show decide (l.length ≤ 20) = decide ((l.length : Int) ≤ 20) from by rw [Bool.eq_iff_iff, decide_eq_true_eq, decide_eq_true_eq]; omega]
      exact Ev.now _
  | d + 1, i, hd, hi => by
    have hw : wrap64 ((i : Int) + 1) = ((i + 1 : Nat) : Int) := wrap_succ (by omega) (show (i : Int) < (l.length : Int) by omega) (by omega)
    obtain ⟨K1, ih⟩ := ev_out (vars_l0 l hl d (i + 1) (by omega) (by omega))
    obtain ⟨K2, hV⟩ := ev_out (Var_val (l.getD i noB))
    obtain ⟨K3, hC⟩ := ev_out (Contains_val (l.take i) (l.getD i noB) (by rw [List.length_take]; omega))
    refine ev_mk1 (max K1 (max K2 K3)) (fun m hm => ?_)
    rw [List.range'_succ, List.all_cons, def_vars.l0, if_pos (by omega), if_pos (by omega), if_pos (by omega), rdOf_getD, hV m (by omega), Option.bind_some, Int.toNat_natCast, hC m (by omega), Option.bind_some, hw]
    unfold varAt
    cases h1 : varB (l.getD i noB) with
    | false => rfl
    | true =>
      rw [if_pos rfl, if_pos (by omega)]
      cases h2 : inB (l.take i) (l.getD i noB) with
      | true => rfl
      | false => exact ih m (by omega)
theorem vars_val (l : List ByteArray) (hl : l.length ≤ 140737488355328) : Ev (fun k => def_vars.f k l) (varsAll l && decide (l.length ≤ 20)) := vars_l0 l hl _ 0 rfl (Nat.zero_le _)
/-- P7.1: is a definition right? -/
def rightD (kd : Int) (c s : ByteArray) (v : List ByteArray) (l t : ByteArray) : Bool :=
  if kd = 1 then Nm.clsN (BL c) && !(alwB c) && Nm.clsN (BL s) && varsAll v && decide (v.length ≤ 20) && decide (l = noB) && decide (t = noB)
  else if kd = 2 then Nm.clsN (BL c) && decide (Nm.kindN (BL l) ≠ 0) && decide (t.size ≤ 4000) && decide (s = noB) && decide (v.length = 0)
  else false
theorem Right_val (kd : Int) (c s : ByteArray) (v : List ByteArray) (l t : ByteArray) (hv : v.length ≤ 140737488355328) (hl : l.size < 4294967281) : Ev (fun k => def_Right.f k kd c s v l t) (rightD kd c s v l t) := by
  obtain ⟨K1, hA⟩ := ev_out (Always_val c)
  obtain ⟨K2, hV⟩ := ev_out (vars_val v hv)
  refine ev_mk (max K1 K2) (fun k hk => ?_)
  unfold def_Right.f rightD
  rw [class_val, Option.bind_some, hA k (by omega), Option.bind_some, class_val, Option.bind_some, hV k (by omega), Option.bind_some, Kind_val l hl, Option.bind_some, Option.bind_some]
  by_cases h1 : kd = 1
  · rw [if_pos h1, if_pos h1]
    cases Nm.clsN (BL c) <;> cases alwB c <;> cases Nm.clsN (BL s) <;> cases varsAll v <;> cases decide (v.length ≤ 20) <;> try rfl
    rw [beq_nil]
    by_cases e : l = noB
    · rw [if_pos ((toList_nil l).2 e), decide_eq_true e]; rfl
    · rw [if_neg (fun h => e ((toList_nil l).1 h)), decide_eq_false e]; rfl
  · rw [if_neg h1, if_neg h1]
    by_cases h2 : kd = 2
    · rw [if_pos h2, if_pos h2]
      cases Nm.clsN (BL c) <;> try rfl
      by_cases h3 : Nm.kindN (BL l) = 0
      · rw [if_pos rfl, if_pos h3, decide_eq_false (fun h => h h3)]; rfl
      · rw [if_pos rfl, if_neg h3, decide_eq_true h3]
        by_cases h4 : t.size ≤ 4000
        · rw [if_pos (by omega), decide_eq_true h4]
          by_cases h5 : s = noB
          · rw [if_pos ((toList_nil s).2 h5), decide_eq_true h5, show ((v.length : Int) == 0) = decide (v.length = 0) from by rw [Bool.eq_iff_iff, beq_iff_eq, decide_eq_true_eq]; omega]; rfl
          · rw [if_neg (fun h => h5 ((toList_nil s).1 h)), decide_eq_false h5]; rfl
        · rw [if_neg (by omega), decide_eq_false h4]; rfl
    · rw [if_neg h2, if_neg h2]
theorem refRight_l0 (kd : Int) (c s : ByteArray) (v : List ByteArray) (l t : ByteArray) (hv : v.length ≤ 140737488355328) (hz : ∀ x ∈ v, x.size ≤ 140737488351232) (hs : s.size ≤ 140737488351232) : ∀ (d i : Nat), v.length - i = d → i ≤ v.length →
    Ev (fun k => monticuleref07_Right.l0 k (i : Int) kd c s v l t) ((List.range' i d).all (varAt v) && (!(alwB c) && Nm.clsN (BL s) && decide (v.length ≤ 20) && decide (l = noB) && decide (t = noB)))
  | 0, i, hd, hi => by
    obtain ⟨K1, hA⟩ := ev_out (refAlways_val c)
    obtain ⟨K2, hC⟩ := ev_out (refClass_val s hs)
    refine ev_mk1 (max K1 K2) (fun m hm => ?_)
    rw [List.range'_zero, List.all_nil, Bool.true_and, monticuleref07_Right.l0, if_neg (by omega), hA m (by omega), Option.bind_some, hC m (by omega), Option.bind_some]
    cases alwB c <;> cases Nm.clsN (BL s) <;> try rfl
    by_cases h3 : v.length ≤ 20
    · rw [if_neg (by decide), if_pos rfl, if_pos (by omega), decide_eq_true h3, beq_nil]
      by_cases e : l = noB
      · rw [if_pos ((toList_nil l).2 e), decide_eq_true e]; rfl
      · rw [if_neg (fun h => e ((toList_nil l).1 h)), decide_eq_false e]; rfl
    · rw [if_neg (by decide), if_pos rfl, if_neg (by omega), decide_eq_false h3]; rfl
  | d + 1, i, hd, hi => by
    have hw : wrap64 ((i : Int) + 1) = ((i + 1 : Nat) : Int) := wrap_succ (by omega) (show (i : Int) < (v.length : Int) by omega) (by omega)
    have hg : (v.getD i noB).size ≤ 140737488351232 := by
      rw [List.getD_eq_getElem?_getD, List.getElem?_eq_getElem (by omega)]
      exact hz _ (List.getElem_mem _)
    obtain ⟨K1, ih⟩ := ev_out (refRight_l0 kd c s v l t hv hz hs d (i + 1) (by omega) (by omega))
    obtain ⟨K2, hV⟩ := ev_out (refVar_val (v.getD i noB) hg)
    obtain ⟨K3, hC⟩ := ev_out (refIn_val (v.take i) (v.getD i noB) (by rw [List.length_take]; omega))
    refine ev_mk1 (max K1 (max K2 K3)) (fun m hm => ?_)
    rw [List.range'_succ, List.all_cons, monticuleref07_Right.l0, if_pos (by omega), if_pos (by omega), rdOf_getD, hV m (by omega), Option.bind_some, Int.toNat_natCast, hC m (by omega), Option.bind_some, hw]
    unfold varAt
    cases h1 : varB (v.getD i noB) with
    | false => rfl
    | true =>
      rw [if_pos rfl, if_pos (by omega)]
      cases h2 : inB (v.take i) (v.getD i noB) with
      | true => rfl
      | false => exact ih m (by omega)
theorem refRight_val (kd : Int) (c s : ByteArray) (v : List ByteArray) (l t : ByteArray) (hv : v.length ≤ 140737488355328) (hz : ∀ x ∈ v, x.size ≤ 140737488351232) (hc : c.size ≤ 140737488351232) (hs : s.size ≤ 140737488351232) (hl : l.size ≤ 4294967280) : Ev (fun k => monticuleref07_Right.f k kd c s v l t) (rightD kd c s v l t) := by
  obtain ⟨K1, hC⟩ := ev_out (refClass_val c hc)
  obtain ⟨K2, hL⟩ := ev_out (refRight_l0 kd c s v l t hv hz hs _ 0 rfl (Nat.zero_le _))
  obtain ⟨K3, hK⟩ := ev_out (refKind_val l hl)
  refine ev_mk (max K1 (max K2 K3)) (fun k hk => ?_)
  have hL2 : monticuleref07_Right.l0 k 0 kd c s v l t = _ := hL k (by omega)
  unfold monticuleref07_Right.f rightD
  rw [hC k (by omega), Option.bind_some, hL2, hK k (by omega), Option.bind_some]
  by_cases h1 : kd = 1
  · rw [if_pos h1, if_pos h1]
    show _ = some (Nm.clsN (BL c) && !(alwB c) && Nm.clsN (BL s) && (List.range' 0 v.length).all (varAt v) && decide (v.length ≤ 20) && decide (l = noB) && decide (t = noB))
    rw [Nat.sub_zero]
    cases Nm.clsN (BL c) <;> cases (List.range' 0 v.length).all (varAt v) <;> cases alwB c <;> cases Nm.clsN (BL s) <;> rfl
  · rw [if_neg h1, if_neg h1]
    by_cases h2 : kd = 2
    · rw [if_pos h2, if_pos h2]
      cases Nm.clsN (BL c) <;> try rfl
      have hk0 := kind_cases (BL l)
      by_cases h3 : Nm.kindN (BL l) = 0
      · rw [if_pos rfl, if_neg (by omega), decide_eq_false (fun h => h h3)]; rfl
      · rw [if_pos rfl, if_pos (by omega), decide_eq_true h3]
        by_cases h4 : t.size ≤ 4000
        · rw [if_pos (by omega), decide_eq_true h4]
          by_cases h5 : s = noB
          · rw [if_pos ((toList_nil s).2 h5), decide_eq_true h5, show ((v.length : Int) == 0) = decide (v.length = 0) from by rw [Bool.eq_iff_iff, beq_iff_eq, decide_eq_true_eq]; omega]; rfl
          · rw [if_neg (fun h => h5 ((toList_nil s).1 h)), decide_eq_false h5]; rfl
        · rw [if_neg (by omega), decide_eq_false h4]; rfl
    · rw [if_neg h2, if_neg h2]
      cases Nm.clsN (BL c) <;> rfl
/-! ### keys -/
abbrev arrowB : ByteArray := ⟨#[62, 62]⟩
def keyD (kd : Int) (c s : ByteArray) (v : List ByteArray) (l t : ByteArray) : ByteArray := if rightD kd c s v l t = true then (if kd = 1 then c else c ++ arrowB ++ l) else noB
theorem size_app (a b : ByteArray) : (a ++ b).size = a.size + b.size := ByteArray.size_append
theorem Key_val (kd : Int) (c s : ByteArray) (v : List ByteArray) (l t : ByteArray) (hv : v.length ≤ 140737488355328) (hc : c.size ≤ 140737488351232) (hl : l.size < 4294967281) : Ev (fun k => def_Key.f k kd c s v l t) (keyD kd c s v l t) := by
  obtain ⟨K, h⟩ := ev_out (Right_val kd c s v l t hv hl)
  refine ev_mk K (fun k hk => ?_)
  unfold def_Key.f keyD
  rw [h k hk, Option.bind_some]
  cases rightD kd c s v l t with
  | false => rfl
  | true =>
    rw [if_pos rfl, if_pos rfl]
    by_cases h1 : kd = 1
    · rw [if_pos h1, if_pos h1]
    · rw [if_neg h1, if_neg h1, if_pos (by omega), if_pos (by rw [size_app]; show c.size + 2 + l.size ≤ _; omega)]
theorem awake07_val : Ev (fun k => monticulelaw07_awake.f k) true := by
  obtain ⟨K, h⟩ := ev_out (Key_val 2 ⟨#[83, 116, 97, 99, 107]⟩ ⟨#[]⟩ [] ⟨#[115, 105, 122, 101]⟩ ⟨#[115, 105, 122, 101]⟩ (by decide) (by decide) (by decide))
  refine ev_mk K (fun k hk => ?_)
  unfold monticulelaw07_awake.f
  rw [h k hk, Option.bind_some]
  decide +kernel
/-! ### the parts of a key -/
/-! ### sameness, order, size -/
def sameD (kd : Int) (c s : ByteArray) (v : List ByteArray) (l t : ByteArray) (kd' : Int) (c' s' : ByteArray) (v' : List ByteArray) (l' t' : ByteArray) : Bool :=
  decide (kd = kd') && decide (c = c') && decide (s = s') && decide (v = v') && decide (l = l') && decide (t = t')
theorem refDSame_val (kd : Int) (c s : ByteArray) (v : List ByteArray) (l t : ByteArray) (kd' : Int) (c' s' : ByteArray) (v' : List ByteArray) (l' t' : ByteArray) (hv : v.length ≤ 140737488355328) :
    Ev (fun k => monticuleref07_Same.f k kd c s v l t kd' c' s' v' l' t') (sameD kd c s v l t kd' c' s' v' l' t') := by
  obtain ⟨K, h⟩ := ev_out (Same_val v v' hv)
  refine ev_mk K (fun k hk => ?_)
  unfold monticuleref07_Same.f sameD
  rw [h k hk, Option.bind_some]
  by_cases h1 : kd = kd'
  · rw [if_pos h1, decide_eq_true h1]
    by_cases h2 : c = c'
    · rw [if_pos ((toList_eq _ _).2 h2), decide_eq_true h2]
      by_cases h3 : s = s'
      · rw [if_pos ((toList_eq _ _).2 h3), decide_eq_true h3]
        by_cases h5 : l = l'
        · rw [if_pos ((toList_eq _ _).2 h5), decide_eq_true h5]
          by_cases h6 : t = t'
          · rw [if_pos ((toList_eq _ _).2 h6), decide_eq_true h6]
            simp
          · rw [if_neg (fun e => h6 ((toList_eq _ _).1 e)), decide_eq_false h6, Bool.and_false]
        · rw [if_neg (fun e => h5 ((toList_eq _ _).1 e)), decide_eq_false h5, Bool.and_false, Bool.false_and]
      · rw [if_neg (fun e => h3 ((toList_eq _ _).1 e)), decide_eq_false h3]; rfl
    · rw [if_neg (fun e => h2 ((toList_eq _ _).1 e)), decide_eq_false h2]; rfl
  · rw [if_neg h1, decide_eq_false h1]; rfl
def smallD (kd : Int) (c s : ByteArray) (v : List ByteArray) (l t : ByteArray) : Bool :=
  decide (c.size ≤ 100) && decide (s.size ≤ 100) && decide (v.length ≤ 30) && decide (l.size ≤ 600) && decide (t.size ≤ 5000) && v.all fun x => decide (x.size ≤ 100)
theorem Small_l0 (kd : Int) (c s : ByteArray) (v : List ByteArray) (l t : ByteArray) (hv : v.length ≤ 140737488355328) : ∀ (d i : Nat), v.length - i = d → i ≤ v.length → Ev (fun k => monticuleref07_Small.l0 k (i : Int) kd c s v l t) ((v.drop i).all fun x => decide (x.size ≤ 100))
  | 0, i, hd, hi => by
    refine Ev.step (f := fun _ => some true) (fun k => ?_) ?_
    · rw [monticuleref07_Small.l0, if_neg (by omega)]
    · rw [List.drop_eq_nil_of_le (by omega)]; exact Ev.now _
  | d + 1, i, hd, hi => by
    have hlt : i < v.length := by omega
    have ih := Small_l0 kd c s v l t hv d (i + 1) (by omega) (by omega)
    have hw : wrap64 ((i : Int) + 1) = ((i + 1 : Nat) : Int) := wrap_succ (by omega) (show (i : Int) < (v.length : Int) by omega) (by omega)
    rw [List.drop_eq_getElem_cons hlt, List.all_cons]
    by_cases h1 : (v[i]).size ≤ 100
    · rw [decide_eq_true h1, Bool.true_and]
      refine Ev.step (fun k => ?_) ih
      rw [monticuleref07_Small.l0, if_pos (by omega), if_pos (by omega), rdOf_get v i hlt, if_neg (by omega), hw]
    · rw [decide_eq_false h1, Bool.false_and]
      refine Ev.step (f := fun _ => some false) (fun k => ?_) (Ev.now _)
      rw [monticuleref07_Small.l0, if_pos (by omega), if_pos (by omega), rdOf_get v i hlt, if_pos (by omega)]
theorem Small_val (kd : Int) (c s : ByteArray) (v : List ByteArray) (l t : ByteArray) : Ev (fun k => monticuleref07_Small.f k kd c s v l t) (smallD kd c s v l t) := by
  have hj : ∀ b : Bool, (b = false → v.length ≤ 30) → Ev (fun k => monticuleref07_Small.j0 k b kd c s v l t) (!b && v.all fun x => decide (x.size ≤ 100)) := by
    intro b hv
    cases b with
    | true => exact Ev.step (f := fun _ => some false) (fun k => by rw [monticuleref07_Small.j0, if_pos rfl]) (Ev.now _)
    | false => exact Ev.step (fun k => by rw [monticuleref07_Small.j0, if_neg (by decide)]; rfl) (Small_l0 kd c s v l t (by have := hv rfl; omega) _ 0 rfl (Nat.zero_le _))
  have hb : Ev (fun k => monticuleref07_Small.f k kd c s v l t) (!(decide (c.size > 100) || decide (s.size > 100) || decide (v.length > 30) || decide (l.size > 600) || decide (t.size > 5000)) && v.all fun x => decide (x.size ≤ 100)) := by
    refine Ev.congr (fun k => ?_) (hj _ (fun h => by simp at h; omega))
    unfold monticuleref07_Small.f
    by_cases h1 : c.size > 100
    · rw [if_pos (by omega), decide_eq_true h1]; rfl
    · rw [if_neg (by omega), decide_eq_false h1]
      by_cases h2 : s.size > 100
      · rw [if_pos (by omega), decide_eq_true h2]; rfl
      · rw [if_neg (by omega), decide_eq_false h2]
        by_cases h3 : v.length > 30
        · rw [if_pos (by omega), decide_eq_true h3]; rfl
        · rw [if_neg (by omega), decide_eq_false h3]
          by_cases h4 : l.size > 600
          · rw [if_pos (by omega), decide_eq_true h4]; rfl
          · rw [if_neg (by omega), decide_eq_false h4, show decide ((t.size : Int) > 5000) = decide (t.size > 5000) from by rw [Bool.eq_iff_iff, decide_eq_true_eq, decide_eq_true_eq]; omega]; rfl
  have e : smallD kd c s v l t = (!(decide (c.size > 100) || decide (s.size > 100) || decide (v.length > 30) || decide (l.size > 600) || decide (t.size > 5000)) && v.all fun x => decide (x.size ≤ 100)) := by
    unfold smallD
    congr 1
    rw [Bool.eq_iff_iff]; simp
  rw [e]; exact hb
end Go.Proofs.YtjloioalhgifbaaDoor.PAll
