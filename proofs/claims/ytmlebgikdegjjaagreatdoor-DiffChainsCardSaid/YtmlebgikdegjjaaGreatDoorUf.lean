/- Changes of snapshots, and the document's example. -/
import Derived.Test.YtmlebgikdegjjaaGreatDoorSd
import Derived.Test.YtmlebgikdegjjaaGreatDoorSe
namespace Go.Proofs.YtmlebgikdegjjaaGreatDoor.Hd
open Go.Maps Go.RowKit Go.Proofs.YtmlebgikdegjjaaGreatDoorW.PrintWords Go.Proofs.YtmlebgikdegjjaaGreatDoorW.PrintLast Go.Proofs.YtmlebgikdegjjaaGreatDoorW.PrintMore Go.Proofs.YtmlebgikdegjjaaGreatDoor.PAll
attribute [local go_sem] max2_int min2_int max_two min_two max_three min_three max_four min_four
set_option linter.unusedVariables false
set_option linter.unusedSimpArgs false
theorem new_good (key : S34 → ByteArray) (k : Nat) (A0 : Option Addr) (c0 : Nat) (l : List S34) (w : World) (M : DataW S34) (hr0 : Kd.C k34 w A0 l.length l) (hc0 : l.length ≤ c0) (hl : l.length ≤ 400)
  (hkey : ∀ d ∈ l,def_Key.f k d.f0 d.f1 d.f2 d.f3 d.f4 d.f5 = some (key d) ∧ (key d).size ≤ 1000000 ∧ d.f3.length ≤ 1000000) (hn : newGo key l (.map []) = (M,0)) :
  Calls Tryz.prog 17 #[.slice A0 l.length c0] w fun e w'=>∃ g b,e = .returned (.tuple #[.pointer (some ⟨g,0,none⟩),.int .i64 0]) ∧ SnF w' w.heap.size (.pointer (some ⟨g,0,none⟩)) M ∧ b = g ∧ Below w.heap.size w w':=by
 refine (new_calls key k A0 c0 l w hr0 hc0 hl hkey).mono ?_
 rintro e w' ⟨vv,rfl,h1,_,hb⟩
 rw [hn] at h1 ⊢
 have h2:=h1 rfl
 obtain ⟨g,b,rfl,h3⟩:=h2
 exact ⟨g,g,rfl,⟨g,b,rfl,h3⟩,rfl,hb⟩
abbrev ex1 : S34:=⟨1,⟨#[65]⟩,⟨#[79,98,106,101,99,116]⟩,[],⟨#[]⟩,⟨#[]⟩⟩
def exKey (d : S34) : ByteArray:=(def_Key.f 70 d.f0 d.f1 d.f2 d.f3 d.f4 d.f5).getD ⟨#[]⟩
theorem exKey1 : def_Key.f 70 ex1.f0 ex1.f1 ex1.f2 ex1.f3 ex1.f4 ex1.f5 = some (exKey ex1) ∧ (exKey ex1).size ≤ 1000000:=⟨by kernel_rfl,of_decide_eq_true (by kernel_rfl)⟩
end Go.Proofs.YtmlebgikdegjjaaGreatDoor.Hd
