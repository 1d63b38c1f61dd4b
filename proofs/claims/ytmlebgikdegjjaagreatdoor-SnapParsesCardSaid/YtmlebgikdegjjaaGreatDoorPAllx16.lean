import Derived.Test.YtmlebgikdegjjaaGreatDoorPAllx0
import Derived.Test.YtmlebgikdegjjaaGreatDoorPAllx1
import Derived.Test.YtmlebgikdegjjaaGreatDoorPAllx2
set_option maxHeartbeats 4000000
set_option maxRecDepth 100000
namespace Go.Proofs.YtmlebgikdegjjaaGreatDoor.PAll
open Go.RowKit Go.Proofs.YtmlebgikdegjjaaGreatDoorW.PrintWords Go.Proofs.YtmlebgikdegjjaaGreatDoorW.PrintLast Go.Proofs.YtmlebgikdegjjaaGreatDoorW.PrintMore
attribute [local go_sem] max2_int min2_int max_two min_two max_three min_three max_four min_four   -- for this text's walks alone
set_option linter.unusedVariables false
set_option linter.unusedSimpArgs false
/-! ### strings_Cut: function 111 -/
/-! ### def_Split: function 72 -/
/-! ### diff_side: function 73 -/
/-! ### r01_Rest: function 31 -/
/-! ### bytes_Clone: function 120 -/
def bytes_Clone.f (l0 : List Int) : Option (List Int):=if l0.length < 140737488355328 then some l0 else none
theorem bytes_Clone.calls (A0 : Option Addr) (c0 : Nat) (l0 : List Int) (r : List Int) (w : World) (hr0 : Kd.C (Kd.int .u8) w A0 l0.length l0) (hc0 : l0.length ≤ c0) (h : bytes_Clone.f l0 = some r) :
  Calls Tryz.prog 120 #[.slice A0 l0.length c0] w fun e w'=>∃ v0_ : Value,e = .returned (v0_) ∧ Kd.R (Kd.int .u8) 5 w' w.heap.size (fun _=>True) v0_ r ∧ Below w.heap.size w w':=by
 have HR0:=As.mk hr0
 have HC0:=As.mk hc0
 clear hr0 hc0
 have HB:=As.mk (Below.refl w.heap.size w)
 have hlim : l0.length < 140737488355328 ∧ r = l0:=by
  unfold bytes_Clone.f at h
  by_cases c : l0.length < 140737488355328
  ·rw [if_pos c] at h
   exact ⟨c,(Option.some.inj h).symm⟩
  ·rw [if_neg c] at h
   cases h
 clear h
 obtain ⟨LM0,rfl⟩:=hlim
 have LM:=As.mk LM0
 clear LM0
 have hnil:=fun (w : World)=>Lib.run_eql_slice_nil (P:=Tryz.prog) w 54 5 A0 r.length c0 0 0 Tryz.underlying54
 cases A0 with
 | none =>
  have hz : As (r = []):=by
   by_cases hp : 0 < r.length
   ·obtain ⟨ad,e,_⟩:=HR0.out.2.2 hp
    cases e
   ·exact ⟨List.eq_nil_of_length_eq_zero (by omega)⟩
  go_enter Tryz.func120,Tryz.ntmps120
  go_wp2_with (fail)
  go_ret
  exact ⟨_,rfl,by rw [hz.out];exact Kd.R_nil _ _ _ _ _,HB.out⟩
 | some ad =>
  go_enter Tryz.func120,Tryz.ntmps120
  go_wp2_with (first | ((with_reducible refine gate_dst (N:=5) rfl ?_);(try (refine gate_guard (by rfl) ?_;dsimp only));refine Kd.R_lit (Kd.int .u8) _ 5 ?hg (N:=5) ?hd (xs:=([] : List Int)) (inner:=[]) (ok:=fun _=>True) (okp:=fun _=>True) ?hr ?hp (fun _ hk=>hk) trivial (Below.refl _ _) (Nat.le_refl _) (by simp) ?_;(case hd=>rfl);(case hg=>rfl);(case hr=>first | (go_simp;done) | (go_simp;rfl));(case hp=>exact (Reps.none _ _));intro v1_ w8 ho9 hb hg_ hnew_;clear hg_ hnew_;have n0_:=As.mk (Kd.R_lower ho9 (bZ (by repeat (first | (with_reducible first | exact HB.out | apply bA | apply bN | apply bD) | exact HB.out))));have n1_:=As.mk (bS (by repeat (first | (with_reducible first | exact HB.out | apply bA | apply bN | apply bD) | exact HB.out)) hb);clear HB;have HO1:=n0_;have HB:=n1_;clear n0_ n1_;clear hb ho9) | ((with_reducible refine gB (b:=.append) (xs:=#[.tmp 5,.tmp 6]) rfl ?_);(try (refine gate_guard (by rfl) ?_;dsimp only));at_builtin;refine Kd.R_append_rows (Kd.int .u8) (w0:=w) w.heap.size rfl (.tmp 5) (.tmp 6) 54 5 (.int .u8 0) 1 rfl Tryz.underlying54 info5 rfl (by decide) (by omega) v1_ [] r _ _ _ (fun _=>True) (fun _=>False) rfl rfl ?aO ?aR (fun _ _ h=>h) (fun _ h=>h.elim) ?aF ?aB ?aS ?aL ?_;(case aR=>repeat (first | exact (Kd.C_below HR0.out HB.out) | (with_reducible refine Kd.C_alloc ?_ _) | (with_reducible refine Kd.C_drewN ?_ _) | (with_reducible refine Kd.C_drew ?_)));(case aB=>exact (by repeat (first | (with_reducible first | exact HB.out | apply bA | apply bN | apply bD) | exact HB.out)));(case aF=>exact (fun _ _=>trivial));(case aO=>exact (by (with_reducible repeat (first | apply Kd.R_alloc | apply Kd.R_drewN | apply Kd.R_drew));exact HO1.out));(case aS=>exact (bZ (by repeat (first | (with_reducible first | exact HB.out | apply bA | apply bN | apply bD) | exact HB.out))));(case aL=>have:=LM.out;simp only [List.length_nil];omega);intro v3_ w10 ho hb hg hat;rw [List.nil_append] at ho;have n0_:=As.mk (hb);have n1_:=As.mk (ho);clear HB;clear HO1;have HB:=n0_;have HO3:=n1_;clear n0_ n1_;clear ho hb hg hat))
  go_ret
  exact ⟨_,rfl,HO3.out,HB.out⟩
/-! ### r01_octets: function 121 -/
/-! ### r01_Num: function 80 -/
/-! ### r01_Text: function 122 -/
/-! ### r01_Texts: function 123 -/
end Go.Proofs.YtmlebgikdegjjaaGreatDoor.PAll
