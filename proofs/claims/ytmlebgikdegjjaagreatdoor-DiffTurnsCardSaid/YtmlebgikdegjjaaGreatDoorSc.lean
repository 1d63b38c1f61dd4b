/- Snapshots with keys dropped, and with a definition put. -/
import Derived.Test.YtmlebgikdegjjaaGreatDoorSb
import Derived.Test.YtmlebgikdegjjaaGreatDoorPAllx2
import Derived.Test.YtmlebgikdegjjaaGreatDoorPAllx2
namespace Go.Proofs.YtmlebgikdegjjaaGreatDoor.Hd
open Go.Maps Go.RowKit Go.Proofs.YtmlebgikdegjjaaGreatDoorW.PrintWords Go.Proofs.YtmlebgikdegjjaaGreatDoorW.PrintLast Go.Proofs.YtmlebgikdegjjaaGreatDoorW.PrintMore Go.Proofs.YtmlebgikdegjjaaGreatDoor.PAll
attribute [local go_sem] max2_int min2_int max_two min_two max_three min_three max_four min_four
set_option linter.unusedVariables false
set_option linter.unusedSimpArgs false
theorem nonempty_ {s : ByteArray} (h : 0 < s.size) : (s.toList == ([] : List UInt8)) = false:=beq_eq_false_iff_ne.mpr (fun e=>by
 rw [Lib.toList_data] at e
 have h2:=congrArg List.length e
 rw [Array.length_toList] at h2
 have h3 : s.size = 0:=h2
 omega)
theorem rdOf_at (l : List ByteArray) (x : Nat) (hx : x < l.length) : rdOf ByteArray.empty l (x : Int) = l[x]:=by
 unfold rdOf
 rw [Int.toNat_natCast,List.getD_eq_getElem?_getD,List.getElem?_eq_getElem hx]
 rfl
theorem clone_calls (w : World) (d : S34) (A2 : Option Addr) (c2 : Nat) (hc2 : d.f3.length ≤ c2) (hr2 : Kd.string.C w A2 d.f3.length d.f3) (hl : d.f3.length ≤ 1000000) :
  Calls Tryz.prog 61 #[.agg #[.int .i64 d.f0,.string d.f1,.string d.f2,.slice A2 d.f3.length c2,.string d.f4,.string d.f5]] w fun e w'=>∃ A3 c3,e = .returned (.agg #[.int .i64 d.f0,.string d.f1,.string d.f2,.slice A3 d.f3.length c3,.string d.f4,.string d.f5]) ∧ d.f3.length ≤ c3 ∧ Kd.string.C w' A3 d.f3.length d.f3 ∧ Below w.heap.size w w':=by
 refine (snap_clone.calls d.f0 d.f1 d.f2 A2 c2 d.f3 d.f4 d.f5 d.f0 d.f1 d.f2 d.f3 d.f4 d.f5 w hr2 hc2 ?_).mono ?_
 ·unfold snap_clone.f slices_Clone_string_string.f
  rw [if_pos (by omega),Option.bind_some]
 ·rintro e w' ⟨v3,rfl,ho,hb⟩
  obtain ⟨A3,c3,rfl,hl3,hC3⟩:=Kd.R_reads ho
  exact ⟨A3,c3,rfl,hl3,hC3,hb⟩
end Go.Proofs.YtmlebgikdegjjaaGreatDoor.Hd
