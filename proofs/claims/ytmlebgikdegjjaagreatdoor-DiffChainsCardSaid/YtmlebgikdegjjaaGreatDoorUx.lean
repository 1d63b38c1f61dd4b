/- Plain laws: definitions that are turned, and New of definitions in another order. -/
import Derived.Test.YtmlebgikdegjjaaGreatDoorUh
import Derived.Test.YtmlebgikdegjjaaGreatDoorPAllx16
namespace Go.Proofs.YtmlebgikdegjjaaGreatDoor.Hd
open Go.Maps Go.RowKit Go.Proofs.YtmlebgikdegjjaaGreatDoorW.PrintWords Go.Proofs.YtmlebgikdegjjaaGreatDoorW.PrintLast Go.Proofs.YtmlebgikdegjjaaGreatDoorW.PrintMore Go.Proofs.YtmlebgikdegjjaaGreatDoor.PAll
attribute [local go_sem] max2_int min2_int max_two min_two max_three min_three max_four min_four
set_option linter.unusedVariables false
set_option linter.unusedSimpArgs false
section
variable {key : S34 → ByteArray}
theorem putL_done {d : S34} : ∀ {l : List S34},hasL key (key d) l = false → putL key d l true = l
 | [],_=>rfl
 | x :: l,h=>by
  obtain ⟨h1,h2⟩:=Bool.or_eq_false_iff.1 (show (decide (key x = key d) || hasL key (key d) l) = false from h)
  unfold putL
  rw [if_neg (by simp),if_neg (of_decide_eq_false h1),Bool.true_or,putL_done h2]
  rfl
theorem putL_perm {d : S34} : ∀ {l : List S34},hasL key (key d) l = false → (putL key d l false).Perm (d :: l)
 | [],_=>List.Perm.refl _
 | x :: l,h=>by
  obtain ⟨h1,h2⟩:=Bool.or_eq_false_iff.1 (show (decide (key x = key d) || hasL key (key d) l) = false from h)
  unfold putL
  rw [if_neg (of_decide_eq_false h1)]
  cases hk : ltK (key x) (key d) with
  | true =>
   rw [if_neg (by simp)]
   exact (List.Perm.cons x (putL_perm h2)).trans (List.Perm.swap ..)
  | false =>
   rw [if_pos (by simp),show (false || !false) = true from rfl,putL_done h2]
   exact List.Perm.refl _
def Apart (key : S34 → ByteArray) (l : List S34) : Prop:=l.Pairwise fun x y=>key x ≠ key y
theorem has_false {ks : ByteArray} {l : List S34} : hasL key ks l = false ↔ ∀ y ∈ l,key y ≠ ks:=by
 unfold hasL
 rw [List.any_eq_false]
 exact ⟨fun h y hy e=>h y hy (decide_eq_true e),fun h y hy e=>h y hy (of_decide_eq_true e)⟩
theorem newL_apart : ∀ {l out : List S34},Apart key out → (newL key l out).2 = 0 → (∀ x ∈ l,(key x).size ≠ 0) ∧ Apart key (l ++ out)
 | [],out,ho,_=>⟨fun x hx=>(by cases hx),ho⟩
 | d :: l,out,ho,h=>by
  unfold newL at h
  by_cases h0 : (key d).size = 0
  ·rw [if_pos h0] at h
   cases h
  ·rw [if_neg h0] at h
   cases h1 : hasL key (key d) out with
   | true =>
    rw [if_pos h1] at h
    cases h
   | false =>
    rw [if_neg (by rw [h1];decide)] at h
    have hp:=putL_perm h1
    have hap : Apart key (d :: out):=List.pairwise_cons.2 ⟨fun y hy e=>has_false.1 h1 y hy e.symm,ho⟩
    obtain ⟨h2,h3⟩:=newL_apart ((List.Perm.pairwise_iff (fun h=>h.symm) hp).2 hap) h
    refine ⟨fun x hx=>?_,?_⟩
    ·rcases List.mem_cons.1 hx with rfl | hx
     ·exact h0
     ·exact h2 x hx
    ·exact (List.Perm.pairwise_iff (fun h=>h.symm) ((List.Perm.append_left l hp).trans List.perm_middle)).1 h3
end
end Go.Proofs.YtmlebgikdegjjaaGreatDoor.Hd
