/- Small things of the laws over snapshots. -/
import Derived.Test.YtmlebgikdegjjaaGreatDoorUd
import Derived.Test.YtmlebgikdegjjaaGreatDoorUf
import Derived.Test.YtmlebgikdegjjaaGreatDoorUg
namespace Go.Proofs.YtmlebgikdegjjaaGreatDoor.Hd
open Go.Maps Go.RowKit Go.Proofs.YtmlebgikdegjjaaGreatDoorW.PrintWords Go.Proofs.YtmlebgikdegjjaaGreatDoorW.PrintLast Go.Proofs.YtmlebgikdegjjaaGreatDoorW.PrintMore Go.Proofs.YtmlebgikdegjjaaGreatDoor.PAll
attribute [local go_sem] max2_int min2_int max_two min_two max_three min_three max_four min_four
set_option linter.unusedVariables false
set_option linter.unusedSimpArgs false
theorem cells_same {w w' : World} (h : ∀ k,k < w.heap.size → w'.heap[k]? = w.heap[k]?) : CellsKept w w':=fun a u hc=>by
 have hlt:=cell_lt hc
 unfold World.cell? at hc ⊢
 rw [h _ hlt]
 exact hc
theorem VS_of_C {w : World} {base : Nat} {A : Option Addr} {c : Nat} {l : List ByteArray} (h : Kd.C Kd.string w A l.length l) (hc : l.length ≤ c) : Kd.V Kd.string 9 w base (fun _=>True) (.slice A l.length c) l :=
 ⟨A,c,rfl,hc,fun W' hW=>C_cells h (cells_same fun k hk=>hW k trivial hk)⟩
theorem alike_self {sm : S34 → S34 → Bool} : ∀ {l : List S34},(∀ x ∈ l,sm x x = true) → alike sm l l = true
 | [],_=>rfl
 | x :: l,h=>by
  show (sm x x && alike sm l l) = true
  rw [h x (List.mem_cons_self ..),alike_self fun y hy=>h y (List.mem_cons_of_mem _ hy)]
  rfl
theorem new_gen (key : S34 → ByteArray) (k : Nat) (A0 : Option Addr) (c0 : Nat) (l : List S34) (w : World) (M : DataW S34) (en : Int) (hr0 : Kd.C k34 w A0 l.length l) (hc0 : l.length ≤ c0) (hl : l.length ≤ 400)
  (hkey : ∀ d ∈ l,def_Key.f k d.f0 d.f1 d.f2 d.f3 d.f4 d.f5 = some (key d) ∧ (key d).size ≤ 1000000 ∧ d.f3.length ≤ 1000000) (hn : newGo key l (.map []) = (M,en)) :
  Calls Tryz.prog 17 #[.slice A0 l.length c0] w fun e w'=>∃ p,e = .returned (.tuple #[.pointer p,.int .i64 en]) ∧ (en = 0 → SnR w' (.pointer p) M) ∧ (en ≠ 0 → p = none) ∧ Below w.heap.size w w':=by
 refine (new_calls key k A0 c0 l w hr0 hc0 hl hkey).mono ?_
 rintro e w' ⟨vv,rfl,h1,h2,hb⟩
 rw [hn] at h1 h2 ⊢
 by_cases he : en = 0
 ·obtain ⟨g,b,rfl,h3⟩:=h1 he
  exact ⟨_,rfl,fun _=>⟨g,b,rfl,h3.1,h3.2.1⟩,fun h_=>absurd he h_,hb⟩
 ·obtain rfl:=h2 he
  exact ⟨_,rfl,fun h_=>absurd h_ he,fun _=>rfl,hb⟩
end Go.Proofs.YtmlebgikdegjjaaGreatDoor.Hd
