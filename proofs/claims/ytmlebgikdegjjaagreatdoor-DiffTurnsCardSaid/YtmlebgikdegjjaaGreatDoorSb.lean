/- Snapshots: their maps, how many definitions they hold, and copies of them. -/
import Derived.Test.YtmlebgikdegjjaaGreatDoorSa
import Derived.Deep.LoopGhost
namespace Go.Proofs.YtmlebgikdegjjaaGreatDoor.Hd
open Go.Maps Go.RowKit Go.Proofs.YtmlebgikdegjjaaGreatDoorW.PrintWords Go.Proofs.YtmlebgikdegjjaaGreatDoorW.PrintLast Go.Proofs.YtmlebgikdegjjaaGreatDoorW.PrintMore Go.Proofs.YtmlebgikdegjjaaGreatDoor.PAll
attribute [local go_sem] max2_int min2_int max_two min_two max_three min_three max_four min_four
set_option linter.unusedVariables false
set_option linter.unusedSimpArgs false
def SnR (w : World) (v : Value) (M : DataW S34) : Prop:=∃ g b,v = .pointer (some ⟨g,0,none⟩) ∧ w.cell? ⟨g,0,none⟩ = some (.map (some b)) ∧ MapD w b M
def SnF (w : World) (base : Nat) (v : Value) (M : DataW S34) : Prop:=∃ g b,v = .pointer (some ⟨g,0,none⟩) ∧ w.cell? ⟨g,0,none⟩ = some (.map (some b)) ∧ MapD w b M ∧ base ≤ g ∧ base ≤ b
theorem SnF.rd {w : World} {base : Nat} {v : Value} {M : DataW S34} (h : SnF w base v M) : SnR w v M:=by
 obtain ⟨g,b,e,hc,hm,_⟩:=h
 exact ⟨g,b,e,hc,hm⟩
def Sn (w : World) (v : Value) (M : DataW S34) : Prop:=(v = .pointer none ∧ M = .map []) ∨ SnR w v M
theorem SnR.below {w w' : World} {v : Value} {M : DataW S34} (h : SnR w v M) (hb : Below w.heap.size w w') : SnR w' v M:=by
 obtain ⟨g,b,e,hc,hm⟩:=h
 exact ⟨g,b,e,CellsKept.below hb _ _ hc,hm.below hb⟩
theorem Sn.below {w w' : World} {v : Value} {M : DataW S34} (h : Sn w v M) (hb : Below w.heap.size w w') : Sn w' v M:=by
 rcases h with h | h
 ·exact Or.inl h
 ·exact Or.inr (h.below hb)
theorem all_nil (w : World) : Calls Tryz.prog 65 #[.pointer none] w fun e w'=>e = .returned (.map none) ∧ w' = w:=by
 go_enter Tryz.func65,Tryz.ntmps65
 go_wp2
 go_ret
 exact ⟨rfl,rfl⟩
theorem all_some (w : World) (g b : Nat) (hc : w.cell? ⟨g,0,none⟩ = some (.map (some b))) : Calls Tryz.prog 65 #[.pointer (some ⟨g,0,none⟩)] w fun e w'=>e = .returned (.map (some b)) ∧ w' = w:=by
 go_enter Tryz.func65,Tryz.ntmps65
 go_wp2
 go_ret
 exact ⟨rfl,rfl⟩
theorem below_own {w W W' : World} {B b : Nat} (h : Below B w W) (hB : B ≤ W.heap.size) (hg : W.grownBy W' (some b)) (hb : B ≤ b) : Below B w W' :=
 ⟨hg.os.trans h.os,hg.tape.trans h.tape,hg.output.trans h.output,Nat.le_trans h.size hg.size,fun k hk=>(hg.block k (by omega) (fun e=>by have:=Option.some.inj e;omega)).trans (h.block k hk)⟩
end Go.Proofs.YtmlebgikdegjjaaGreatDoor.Hd
