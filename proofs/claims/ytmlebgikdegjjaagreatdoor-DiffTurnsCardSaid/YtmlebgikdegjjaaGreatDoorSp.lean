/- What a key's parts are. -/
import Derived.Test.YtmlebgikdegjjaaGreatDoorPAllx16
import Derived.Test.YtmlebgikdegjjaaGreatDoorPAllx0
import Derived.Test.YtmlebgikdegjjaaGreatDoorPAllx0
import Derived.Test.YtmlebgikdegjjaaGreatDoorPAllx0
import Derived.Test.YtmlebgikdegjjaaGreatDoorPAllx3
import Derived.Test.YtmlebgikdegjjaaGreatDoorPAllx0
import Derived.Test.YtmlebgikdegjjaaGreatDoorPAllx3
import Derived.Test.YtmlebgikdegjjaaGreatDoorPAllx0
import Derived.Test.YtmlebgikdegjjaaGreatDoorPAllx3
import Derived.Test.YtmlebgikdegjjaaGreatDoorPAllx0
import Derived.Test.YtmlebgikdegjjaaGreatDoorPAllx0
import Derived.Test.YtmlebgikdegjjaaGreatDoorPAllx0
import Derived.Test.YtmlebgikdegjjaaGreatDoorPAllx3
import Derived.Test.YtmlebgikdegjjaaGreatDoorPAllx0
import Derived.Test.YtmlebgikdegjjaaGreatDoorPAllx3
import Derived.Test.YtmlebgikdegjjaaGreatDoorPAllx0
import Derived.Test.YtmlebgikdegjjaaGreatDoorPAllx3
import Derived.Test.YtmlebgikdegjjaaGreatDoorPs
import Derived.Test.YtmlebgikdegjjaaGreatDoorNm
namespace Go.Proofs.YtmlebgikdegjjaaGreatDoor.PAll
open Go.RowKit Go.Proofs.YtmlebgikdegjjaaGreatDoorW.PrintWords Go.Proofs.YtmlebgikdegjjaaGreatDoorW.PrintLast
set_option linter.unusedVariables false
set_option linter.unusedSimpArgs false
theorem BL_mk (l : List UInt8) : BL (mkB l) = l:=rfl
def splitD (s : ByteArray) : ByteArray × ByteArray × Bool :=
 if (Nm.clsN (Lib.cut (BL s) [62,62]).1 && (if (Lib.cut (BL s) [62,62]).2.2 = true then decide (Nm.kindN (Lib.cut (BL s) [62,62]).2.1 ≠ 0) else !(alwB (mkB (Lib.cut (BL s) [62,62]).1)))) = true then (mkB (Lib.cut (BL s) [62,62]).1,mkB (Lib.cut (BL s) [62,62]).2.1,true) else (noB,noB,false)
theorem cut_len (l : List UInt8) : (Lib.cut l [62,62]).2.1.length ≤ l.length:=by
 unfold Lib.cut
 split
 ·simp
 ·exact Nat.zero_le _
theorem Split_val (s : ByteArray) (hs : s.size < 4294967281) : Ev (fun k=>def_Split.f k s) (splitD s):=by
 obtain ⟨K,hA⟩:=ev_out (Always_val (mkB (Lib.cut (BL s) [62,62]).1))
 refine ev_mk K (fun k hk=>?_)
 unfold def_Split.f strings_Cut.f splitD
 rw [if_pos hs,Option.bind_some]
 have hl : (mkB (Lib.cut (BL s) [62,62]).2.1).size < 4294967281:=by
  have h:=cut_len (BL s)
  rw [BL_len] at h
  rw [← BL_len,BL_mk]
  omega
 show (name_Class.f (mkB (Lib.cut (BL s) [62,62]).1)).bind (fun t234=>if t234 = true then if (Lib.cut (BL s) [62,62]).2.2 = true then (name_Kind.f (mkB (Lib.cut (BL s) [62,62]).2.1)).bind fun t235=>if t235 = 0 then some (noB,noB,false) else some (mkB (Lib.cut (BL s) [62,62]).1,mkB (Lib.cut (BL s) [62,62]).2.1,true) else (name_Always.f k (mkB (Lib.cut (BL s) [62,62]).1)).bind fun t236=>if t236 = true then some (noB,noB,false) else some (mkB (Lib.cut (BL s) [62,62]).1,mkB (Lib.cut (BL s) [62,62]).2.1,true) else some (noB,noB,false)) = _
 rw [class_val,Option.bind_some,Kind_val _ hl,Option.bind_some,hA k hk,Option.bind_some,BL_mk,BL_mk]
 cases Nm.clsN (Lib.cut (BL s) [62,62]).1 with
 | false=>rfl
 | true =>
  rw [if_pos rfl,Bool.true_and]
  cases (Lib.cut (BL s) [62,62]).2.2 with
  | true =>
   rw [if_pos rfl,if_pos rfl]
   by_cases h3 : Nm.kindN (Lib.cut (BL s) [62,62]).2.1 = 0
   ·rw [if_pos h3,decide_eq_false (fun h=>h h3)];rfl
   ·rw [if_neg h3,decide_eq_true h3];rfl
  | false =>
   cases alwB (mkB (Lib.cut (BL s) [62,62]).1) <;> rfl
end Go.Proofs.YtmlebgikdegjjaaGreatDoor.PAll
