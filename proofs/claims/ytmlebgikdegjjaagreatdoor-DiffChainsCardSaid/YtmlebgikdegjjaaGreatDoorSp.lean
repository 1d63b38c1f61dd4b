/- What a key's parts are. -/
import Derived.Test.YtmlebgikdegjjaaGreatDoorPAllx16
import Derived.Test.YtmlebgikdegjjaaGreatDoorPAllx20
import Derived.Test.YtmlebgikdegjjaaGreatDoorPs
import Derived.Test.YtmlebgikdegjjaaGreatDoorNm
namespace Go.Proofs.YtmlebgikdegjjaaGreatDoor.PAll
open Go.RowKit Go.Proofs.YtmlebgikdegjjaaGreatDoorW.PrintWords Go.Proofs.YtmlebgikdegjjaaGreatDoorW.PrintLast
set_option linter.unusedVariables false
set_option linter.unusedSimpArgs false
theorem BL_mk (l : List UInt8) : BL (mkB l) = l:=rfl
def splitD (s : ByteArray) : ByteArray × ByteArray × Bool :=
 if (Nm.clsN (Lib.cut (BL s) [62,62]).1 && (if (Lib.cut (BL s) [62,62]).2.2 = true then decide (Nm.kindN (Lib.cut (BL s) [62,62]).2.1 ≠ 0) else !(alwB (mkB (Lib.cut (BL s) [62,62]).1)))) = true then (mkB (Lib.cut (BL s) [62,62]).1,mkB (Lib.cut (BL s) [62,62]).2.1,true) else (noB,noB,false)
theorem cut_len (l : List UInt8) : (Lib.cut l [62,62]).2.1.length ≤ l.length:=by
 unfold Lib.cut
 split
 ·simp
 ·exact Nat.zero_le _
theorem Split_val (s : ByteArray) (hs : s.size < 4294967281) : Ev (fun k=>def_Split.f k s) (splitD s):=by
 obtain ⟨K,hA⟩:=ev_out (Always_val (mkB (Lib.cut (BL s) [62,62]).1))
 refine ev_mk K (fun k hk=>?_)
 unfold def_Split.f strings_Cut.f splitD
 rw [if_pos hs,Option.bind_some]
 have hl : (mkB (Lib.cut (BL s) [62,62]).2.1).size < 4294967281:=by
  have h:=cut_len (BL s)
  rw [BL_len] at h
  rw [← BL_len,BL_mk]
  omega
 show (name_Class.f (mkB (Lib.cut (BL s) [62,62]).1)).bind (fun t234=>if t234 = true then if (Lib.cut (BL s) [62,62]).2.2 = true then (name_Kind.f (mkB (Lib.cut (BL s) [62,62]).2.1)).bind fun t235=>if t235 = 0 then some (noB,noB,false) else some (mkB (Lib.cut (BL s) [62,62]).1,mkB (Lib.cut (BL s) [62,62]).2.1,true) else (name_Always.f k (mkB (Lib.cut (BL s) [62,62]).1)).bind fun t236=>if t236 = true then some (noB,noB,false) else some (mkB (Lib.cut (BL s) [62,62]).1,mkB (Lib.cut (BL s) [62,62]).2.1,true) else some (noB,noB,false)) = _
 rw [class_val,Option.bind_some,Kind_val _ hl,Option.bind_some,hA k hk,Option.bind_some,BL_mk,BL_mk]
 cases Nm.clsN (Lib.cut (BL s) [62,62]).1 with
 | false=>rfl
 | true =>
  rw [if_pos rfl,Bool.true_and]
  cases (Lib.cut (BL s) [62,62]).2.2 with
  | true =>
   rw [if_pos rfl,if_pos rfl]
   by_cases h3 : Nm.kindN (Lib.cut (BL s) [62,62]).2.1 = 0
   ·rw [if_pos h3,decide_eq_false (fun h=>h h3)];rfl
   ·rw [if_neg h3,decide_eq_true h3];rfl
  | false =>
   cases alwB (mkB (Lib.cut (BL s) [62,62]).1) <;> rfl
theorem cls_gt {l : List UInt8} (h : Nm.clsN l = true) : ∀ b ∈ l,b ≠ 62:=by
 unfold Nm.clsN Nm.isN at h
 simp only [Bool.and_eq_true,List.all_eq_true] at h
 intro b hb e
 have h1:=h.1.2 b hb
 rw [e] at h1
 exact absurd h1 (by decide)
theorem occ_head {l : List UInt8} {j : Nat} (h : j < l.length) (hb : l[j] ≠ 62) : Lib.occAt l [62,62] j = false:=by
 unfold Lib.occAt
 rw [List.drop_eq_getElem_cons h]
 show ((62 : UInt8) == l[j] && _) = false
 rw [show ((62 : UInt8) == l[j]) = false from beq_eq_false_iff_ne.2 (Ne.symm hb),Bool.false_and]
theorem cut_class {c : List UInt8} (h : ∀ b ∈ c,b ≠ 62) : Lib.cut c [62,62] = (c,[],false):=by
 have hi : Lib.index c [62,62] = -1:=Lib.index_none (fun j hj=>by
  rcases Nat.lt_or_ge j c.length with hl | hl
  ·exact occ_head hl (h _ (List.getElem_mem _))
  ·unfold Lib.occAt;rw [List.drop_eq_nil_of_le hl];rfl)
 unfold Lib.cut
 rw [hi,if_neg (by decide)]
theorem cut_method {c l : List UInt8} (h : ∀ b ∈ c,b ≠ 62) : Lib.cut (c ++ [62,62] ++ l) [62,62] = (c,l,true):=by
 have hi : Lib.index (c ++ [62,62] ++ l) [62,62] = (c.length : Int):=by
  refine Lib.index_first (by simp) ?_ (fun j hj=>?_)
  ·unfold Lib.occAt
   rw [List.append_assoc,List.drop_left];rfl
  ·refine occ_head (by simp;omega) ?_
   rw [List.getElem_append_left (by simp;omega),List.getElem_append_left hj]
   exact h _ (List.getElem_mem _)
 unfold Lib.cut
 rw [hi,if_pos (by omega),Int.toNat_natCast]
 have e1 : (c ++ [62,62] ++ l).take c.length = c:=by rw [List.append_assoc,List.take_left' rfl]
 have e2 : (c ++ [62,62] ++ l).drop (c.length + [(62 : UInt8),62].length) = l:=List.drop_left' (by simp)
 rw [e1,e2]
theorem BL_app (a b : ByteArray) : BL (a ++ b) = BL a ++ BL b:=by simp [BL]
theorem key_split {kd : Int} {c s : ByteArray} {v : List ByteArray} {l t : ByteArray} (h : rightD kd c s v l t = true) : splitD (keyD kd c s v l t) = (c,l,true):=by
 obtain ⟨hc,hh⟩:=right_cases h
 unfold splitD
 rcases hh with ⟨_,ha,e0,e⟩ | ⟨_,hk,e⟩
 ·rw [e,cut_class (cls_gt hc)]
  simp only [mk_BL]
  rw [hc,ha,e0];rfl
 ·rw [e,show BL (c ++ arrowB ++ l) = BL c ++ [62,62] ++ BL l by rw [BL_app,BL_app],cut_method (cls_gt hc)]
  simp only [mk_BL]
  rw [hc,decide_eq_true hk];rfl
end Go.Proofs.YtmlebgikdegjjaaGreatDoor.PAll
