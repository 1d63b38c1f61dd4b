/- What is written of a snapshot is read again; and tells it. -/
import Derived.Test.YtmlebgikdegjjaaGreatDoorPw
import Derived.Test.YtmlebgikdegjjaaGreatDoorUy
namespace Go.Proofs.YtmlebgikdegjjaaGreatDoor.PAll
open Go.RowKit Go.Proofs.YtmlebgikdegjjaaGreatDoorW.PrintWords Go.Proofs.YtmlebgikdegjjaaGreatDoorW.PrintLast Go.Proofs.YtmlebgikdegjjaaGreatDoor.Hd
set_option linter.unusedVariables false
theorem listO_ge : ∀ (v : List ByteArray),v.length ≤ (v.flatMap textO).length
 | []=>Nat.le_refl _
 | x :: v=>by
  rw [List.flatMap_cons,List.length_append,textO_len,List.length_cons]
  have:=listO_ge v
  omega
theorem rightD_one {c s : ByteArray} {v : List ByteArray} {l t : ByteArray} (h : rightD 1 c s v l t = true) : l = noB ∧ t = noB:=by
 unfold rightD at h
 rw [if_pos rfl] at h
 simp only [Bool.and_eq_true,decide_eq_true_eq] at h
 exact ⟨h.1.2,h.2⟩
theorem rightD_two {c s : ByteArray} {v : List ByteArray} {l t : ByteArray} (h : rightD 2 c s v l t = true) : s = noB ∧ v = []:=by
 unfold rightD at h
 rw [if_neg (by decide),if_pos rfl] at h
 simp only [Bool.and_eq_true,decide_eq_true_eq] at h
 exact ⟨h.1.2,List.eq_nil_of_length_eq_zero h.2⟩
section
variable {key : SD → ByteArray}
end
end Go.Proofs.YtmlebgikdegjjaaGreatDoor.PAll
