/- Is: has a snapshot just these? -/
import Derived.Test.YtmlebgikdegjjaaGreatDoorUn
import Derived.Test.YtmlebgikdegjjaaGreatDoorRr
import Derived.Test.YtmlebgikdegjjaaGreatDoorPAllx8
namespace Go.Proofs.YtmlebgikdegjjaaGreatDoor.Hd
open Go.Maps Go.RowKit Go.Proofs.YtmlebgikdegjjaaGreatDoor.Rq Go.Proofs.YtmlebgikdegjjaaGreatDoor.Rr Go.Proofs.YtmlebgikdegjjaaGreatDoorW.PrintWords Go.Proofs.YtmlebgikdegjjaaGreatDoorW.PrintLast Go.Proofs.YtmlebgikdegjjaaGreatDoorW.PrintMore Go.Proofs.YtmlebgikdegjjaaGreatDoor.PAll
attribute [local go_sem] max2_int min2_int max_two min_two max_three min_three max_four min_four
set_option linter.unusedVariables false
set_option linter.unusedSimpArgs false
attribute [local go_sem] Oper.semAt_some
def alike (sm : S34 → S34 → Bool) : List S34 → List S34 → Bool
 | [],[]=>true
 | x :: l,y :: m=>sm x y && alike sm l m
 | _,_=>false
theorem alike_len (sm : S34 → S34 → Bool) : ∀ (l m : List S34),l.length ≠ m.length → alike sm l m = false
 | [],[],h=>absurd rfl h
 | [],_ :: _,_=>rfl
 | _ :: _,[],_=>rfl
 | x :: l,y :: m,h=>by
  unfold alike
  rw [alike_len sm l m (fun e=>h (by rw [List.length_cons,List.length_cons,e])),Bool.and_false]
theorem kept_own {w w' : World} {row : Option Nat} (hg : w.grownBy w' row) (hr : ∀ r,row = some r → ∃ o : Obj,w.heap[r]? = some o ∧ o.isCells = false) : CellsKept w w':=fun a u hc=>hg.cell hc (fun e=>by
 obtain ⟨o,ho,hn⟩:=hr _ e.symm
 unfold World.cell? at hc
 rw [ho] at hc
 cases o <;> first | cases hc | cases hn)
def noP (Q : Exit → Act → World → Prop) : Exit → Act → World → Prop
 | .panic _,_,_=>False
 | .normal,a,w=>Q .normal a w
 | .ret,a,w=>Q .ret a w
 | .exit i,a,w=>Q (.exit i) a w
 | .goto t,a,w=>Q (.goto t) a w
 | .outgrown,a,w=>Q .outgrown a w
theorem noP_le {Q : Exit → Act → World → Prop} : ∀ (e : Exit) (a : Act) (w : World),noP Q e a w → Q e a w
 | .panic _,_,_,h=>h.elim
 | .normal,_,_,h=>h
 | .ret,_,_,h=>h
 | .exit _,_,_,h=>h
 | .goto _,_,_,h=>h
 | .outgrown,_,_,h=>h
theorem alike_take (sm : S34 → S34 → Bool) : ∀ (n : Nat) (l m : List S34),alike sm l m = true → alike sm (l.take n) (m.take n) = true
 | 0,l,m,_=>by rw [List.take_zero,List.take_zero];rfl
 | n + 1,[],[],_=>rfl
 | n + 1,[],_ :: _,h=>by cases h
 | n + 1,_ :: _,[],h=>by cases h
 | n + 1,x :: l,y :: m,h=>by
  obtain ⟨h1,h2⟩:=Bool.and_eq_true_iff.1 (show (sm x y && alike sm l m) = true from h)
  show (sm x y && alike sm (l.take n) (m.take n)) = true
  rw [h1,alike_take sm n l m h2]
  rfl
theorem cell_lt {w : World} {a : Addr} {v : Value} (h : w.cell? a = some v) : a.block < w.heap.size:=by
 unfold World.cell? at h
 cases ho : w.heap[a.block]? with
 | none=>rw [ho] at h;cases h
 | some o=>exact (Array.getElem?_eq_some_iff.1 ho).1
theorem KpR.set {XM : Nat → Prop} {W : World} {g : Addr} {u : Value} (v : Value) (hc : W.cell? g = some u) (hu : keepV u = false) : KpR XM W (W.setCell g v):=by
 refine ⟨by simp,fun a t ha ht=>?_,fun k es c hk _=>?_⟩
 ·rw [World.cell?_setCell_other _ _ _ _ (fun e=>?_)]
  ·exact ha
  ·subst e
   rw [ha] at hc
   cases hc
   rw [ht] at hu
   cases hu
 ·rw [Below.heap_setCell _ _ _ _ (fun e=>?_)]
  ·exact hk
  ·subst e
   unfold World.cell? at hc
   rw [hk] at hc
   cases hc
end Go.Proofs.YtmlebgikdegjjaaGreatDoor.Hd
