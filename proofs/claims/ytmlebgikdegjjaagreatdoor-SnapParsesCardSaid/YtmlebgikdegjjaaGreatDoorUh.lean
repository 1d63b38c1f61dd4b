/- Small things of the laws over snapshots. -/
import Derived.Test.YtmlebgikdegjjaaGreatDoorUd
import Derived.Test.YtmlebgikdegjjaaGreatDoorUf
import Derived.Test.YtmlebgikdegjjaaGreatDoorUg
namespace Go.Proofs.YtmlebgikdegjjaaGreatDoor.Hd
open Go.Maps Go.RowKit Go.Proofs.YtmlebgikdegjjaaGreatDoorW.PrintWords Go.Proofs.YtmlebgikdegjjaaGreatDoorW.PrintLast Go.Proofs.YtmlebgikdegjjaaGreatDoorW.PrintMore Go.Proofs.YtmlebgikdegjjaaGreatDoor.PAll
attribute [local go_sem] max2_int min2_int max_two min_two max_three min_three max_four min_four
set_option linter.unusedVariables false
set_option linter.unusedSimpArgs false
theorem VC {w : World} {base : Nat} {ok : Nat → Prop} {A : Option Addr} {c : Nat} {l : List S34} (h : Kd.V k34 34 w base ok (.slice A l.length c) l) : Kd.C k34 w A l.length l ∧ l.length ≤ c:=⟨(Kd.V_reads' h).2.2,(Kd.V_reads' h).2.1⟩
theorem VT {w : World} {base base' : Nat} {ok : Nat → Prop} {v : Value} {l : List S34} (h : Kd.N k34 34 w base ok v l) : ∃ A c,v = .slice A l.length c ∧ Kd.V k34 34 w base' (fun _=>True) (.slice A l.length c) l:=by
 have h1 : Kd.V k34 34 w base' (fun _=>True) v l:=Kd.V_mono (Kd.N_V h) (fun _ _=>trivial)
 obtain ⟨A,c,rfl⟩:=Kd.N_slice h
 exact ⟨A,c,rfl,h1⟩
theorem alike_self {sm : S34 → S34 → Bool} : ∀ {l : List S34},(∀ x ∈ l,sm x x = true) → alike sm l l = true
 | [],_=>rfl
 | x :: l,h=>by
  show (sm x x && alike sm l l) = true
  rw [h x (List.mem_cons_self ..),alike_self fun y hy=>h y (List.mem_cons_of_mem _ hy)]
  rfl
theorem is_same (key : S34 → ByteArray) (sm : S34 → S34 → Bool) (k : Nat) (w : World) (p : Option Addr) (out : List S34) (A0 : Option Addr) (c0 : Nat) (h : Sn w (.pointer p) (mapK key out)) (hv : Kd.V k34 34 w 0 (fun _=>True) (.slice A0 out.length c0) out) (hl : out.length ≤ 1000)
  (hvv : ∀ d ∈ out,d.f3.length ≤ 1000000) (hsm : ∀ x ∈ out,∀ y ∈ out,r07_Same.f k x.f0 x.f1 x.f2 x.f3 x.f4 x.f5 y.f0 y.f1 y.f2 y.f3 y.f4 y.f5 = some (sm x y)) (hself : ∀ x ∈ out,sm x x = true) :
  Calls Tryz.prog 21 #[.pointer p,.slice A0 out.length c0] w fun e w'=>e = .returned (.bool true) ∧ Below w.heap.size w w':=by
 obtain ⟨hC,hc⟩:=VC hv
 have h1:=is_calls sm k w p (mapK key out) A0 c0 out h (by rw [size_mapK];exact hl) hC hc hl (by rw [vals_mapK];exact hvv) (by rw [vals_mapK];exact hsm)
 rw [vals_mapK,alike_self hself] at h1
 exact h1
end Go.Proofs.YtmlebgikdegjjaaGreatDoor.Hd
