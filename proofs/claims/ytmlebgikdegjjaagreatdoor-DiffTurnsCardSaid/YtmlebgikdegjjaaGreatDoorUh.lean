/- Small things of the laws over snapshots. -/
import Derived.Test.YtmlebgikdegjjaaGreatDoorUd
import Derived.Test.YtmlebgikdegjjaaGreatDoorUf
import Derived.Test.YtmlebgikdegjjaaGreatDoorUg
namespace Go.Proofs.YtmlebgikdegjjaaGreatDoor.Hd
open Go.Maps Go.RowKit Go.Proofs.YtmlebgikdegjjaaGreatDoorW.PrintWords Go.Proofs.YtmlebgikdegjjaaGreatDoorW.PrintLast Go.Proofs.YtmlebgikdegjjaaGreatDoorW.PrintMore Go.Proofs.YtmlebgikdegjjaaGreatDoor.PAll
attribute [local go_sem] max2_int min2_int max_two min_two max_three min_three max_four min_four
set_option linter.unusedVariables false
set_option linter.unusedSimpArgs false
theorem cells_same {w w' : World} (h : ∀ k,k < w.heap.size → w'.heap[k]? = w.heap[k]?) : CellsKept w w':=fun a u hc=>by
 have hlt:=cell_lt hc
 unfold World.cell? at hc ⊢
 rw [h _ hlt]
 exact hc
theorem VS_of_C {w : World} {base : Nat} {A : Option Addr} {c : Nat} {l : List ByteArray} (h : Kd.C Kd.string w A l.length l) (hc : l.length ≤ c) : Kd.V Kd.string 9 w base (fun _=>True) (.slice A l.length c) l :=
 ⟨A,c,rfl,hc,fun W' hW=>C_cells h (cells_same fun k hk=>hW k trivial hk)⟩
theorem alike_self {sm : S34 → S34 → Bool} : ∀ {l : List S34},(∀ x ∈ l,sm x x = true) → alike sm l l = true
 | [],_=>rfl
 | x :: l,h=>by
  show (sm x x && alike sm l l) = true
  rw [h x (List.mem_cons_self ..),alike_self fun y hy=>h y (List.mem_cons_of_mem _ hy)]
  rfl
end Go.Proofs.YtmlebgikdegjjaaGreatDoor.Hd
