/- Small plain laws of patches: whether they are small, their sides, whether two are the same. -/
import Derived.Test.YtmlebgikdegjjaaGreatDoorPAllx0
import Derived.Test.YtmlebgikdegjjaaGreatDoorPAllx3
import Derived.Test.YtmlebgikdegjjaaGreatDoorPAllx8
import Derived.Test.YtmlebgikdegjjaaGreatDoorPAllx16
import Derived.Test.YtmlebgikdegjjaaGreatDoorPAllx0
import Derived.Test.YtmlebgikdegjjaaGreatDoorPAllx0
import Derived.Test.YtmlebgikdegjjaaGreatDoorPAllx3
import Derived.Test.YtmlebgikdegjjaaGreatDoorPAllx8
import Derived.Test.YtmlebgikdegjjaaGreatDoorPz
import Derived.Test.YtmlebgikdegjjaaGreatDoorSp
import Derived.Test.YtmlebgikdegjjaaGreatDoorDh
namespace Go.Proofs.YtmlebgikdegjjaaGreatDoor.PAll
open Go.RowKit Go.Proofs.YtmlebgikdegjjaaGreatDoorW.PrintWords Go.Proofs.YtmlebgikdegjjaaGreatDoorW.PrintLast
open Go.Proofs.YtmlebgikdegjjaaGreatDoor.Hd (alike alike_len alike_next alike_false alike_self turnP rightO ltK)
set_option linter.unusedVariables false
abbrev SE:=S82
theorem smS_iff (x y : SD) : smS x y = true ↔ x = y:=by
 constructor
 ·intro h
  unfold smS sameD at h
  simp only [Bool.and_eq_true,decide_eq_true_eq] at h
  obtain ⟨⟨⟨⟨⟨h1,h2⟩,h3⟩,h4⟩,h5⟩,h6⟩:=h
  obtain ⟨a1,a2,a3,a4,a5,a6⟩:=x
  obtain ⟨b1,b2,b3,b4,b5,b6⟩:=y
  dsimp only at h1 h2 h3 h4 h5 h6
  subst h1 h2 h3 h4 h5 h6
  rfl
 ·rintro rfl
  exact smS_self x
theorem alike_eq : ∀ (l m : List SD),alike smS l m = true ↔ l = m
 | [],[]=>⟨fun _=>rfl,fun _=>rfl⟩
 | [],_ :: _=>⟨fun h=>(by cases h),fun h=>(by cases h)⟩
 | _ :: _,[]=>⟨fun h=>(by cases h),fun h=>(by cases h)⟩
 | x :: l,y :: m=>by
  show (smS x y && alike smS l m) = true ↔ _
  rw [Bool.and_eq_true,smS_iff,alike_eq l m]
  exact ⟨fun h=>by rw [h.1,h.2],fun h=>by injection h with h1 h2;exact ⟨h1,h2⟩⟩
def sideS (l : List SD) (key : ByteArray) : Bool:=match l with
 | []=>true
 | [d]=>decide (keyS d = key)
 | _=>false
theorem rd0 (d : SD) : rd_T34 [d] 0 = d:=rfl
theorem side_ev (l : List SD) (key : ByteArray) (hs : ∀ x ∈ l,smallB x = true) : Ev (fun k=>diff_side.f k l key) (sideS l key):=by
 rcases l with _ | ⟨d,_ | ⟨d2,l⟩⟩
 ·exact Ev.congr (f:=fun _=>some true) (fun k=>by unfold diff_side.f;rw [if_pos (show (([] : List SD).length : Int) = 0 from rfl)]) (Ev.now _)
 ·obtain ⟨K,h⟩:=ev_out (key_ev (hs d (List.mem_cons_self ..)))
  refine ev_mk K (fun k hk=>?_)
  unfold diff_side.f
  rw [if_neg (show ¬ ((([d] : List SD).length : Int) = 0) by show ¬ ((1 : Int) = 0);decide),if_pos (show (([d] : List SD).length : Int) = 1 from rfl),if_pos (show 0 < (([d] : List SD).length : Int) by show (0 : Int) < 1;decide),rd0,h k hk,Option.bind_some,beq_text]
  rfl
 ·exact Ev.congr (f:=fun _=>some false) (fun k=>by unfold diff_side.f;rw [if_neg (by simp only [List.length_cons];omega),if_neg (by simp only [List.length_cons];omega)]) (Ev.now _)
theorem rdEdit (l : List SE) (i : Nat) (hi : i < l.length) : rd_T82 l (i : Int) = l[i]:=by
 unfold rd_T82
 rw [Int.toNat_natCast,List.getD_eq_getElem?_getD,List.getElem?_eq_getElem hi]
 rfl
end Go.Proofs.YtmlebgikdegjjaaGreatDoor.PAll
