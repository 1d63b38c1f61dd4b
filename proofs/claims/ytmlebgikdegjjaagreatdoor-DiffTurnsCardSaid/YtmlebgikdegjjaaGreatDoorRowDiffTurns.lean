/- The law DiffTurns holds for every input; its listed package-level variables are tied to the program's text. -/
import Derived.Test.YtmlebgikdegjjaaGreatDoorRows
import Derived.Test.YtmlebgikdegjjaaGreatDoorPureDiffTurns
import Derived.Test.YtmlebgikdegjjaaGreatDoorCards
import Derived.Test.YtmlebgikdegjjaaGreatDoorTie
import Derived.Test.YtmlebgikdegjjaaGreatDoorCd
import Derived.Test.YtmlebgikdegjjaaGreatDoorOr
import Derived.Test.YtmlebgikdegjjaaGreatDoorOe
import Derived.WalkKit
import Derived.ProofKit
import Derived.OpenShut
import Derived.ShutString
import Derived.ChangeOld
import Derived.Below
import Derived.SizedLaws
import Derived.LaidMore
import Derived.Lay
import Derived.SevenTiedAt
import Derived.Stop.Joined
namespace Go.Proofs.YtmlebgikdegjjaaGreatDoor.diffTurns
open Go.ChangeShapes Go.WideShapes Go.ChangeAt Go.RowKit
open Go.ChangeMaps (open_string shut_string)
set_option linter.unusedVariables false
theorem own : ownKnob Tryz.prog.godebug = none := by kernel_rfl
theorem laidOut : laidOutB Tryz.prog = true := by kernel_rfl
set_option maxHeartbeats 4000000 in
set_option maxRecDepth 100000 in
theorem lifted (os : Os) (started : os.Started) (H : Type) (enc : TypeId × Value → H) :
    ReturnsInHanded {} Tryz.checked os 4 .any (fun w args => (Rows.diffTurnsSpec.pre enc Tryz.prog Tryz.f4 Rows.diffTurnsRow.domain false w args ∧ laidMetH Tryz.prog Rows.diffTurnsRow.laid w) ∧ sizedMet enc Tryz.prog Tryz.f4 (OpenSpec.ofChange Rows.diffTurnsSpec) false w args) (Rows.diffTurnsSpec.post enc Tryz.prog Tryz.f4 false true false false) := by
  refine Cd.handed_shaped (C := Tryz.checked) (X := fun w _ => laidMetH Tryz.prog Rows.diffTurnsRow.laid w) (fun _ _ _ hh h => h.of_heap hh) own started (by kernel_rfl) Tryz.func4
    (ChangeSpec.witness_shaped (enc := enc) (C := Tryz.checked) (os := os) (X := fun w _ => laidMetH Tryz.prog Rows.diffTurnsRow.laid w) false (World.laidAll Tryz.prog os Rows.diffTurnsRow.laid) #[.slice none 0 0] 8 (World.laidAll_os _ _ _)
      (World.shaped_of_ZipB (by kernel_rfl) (by kernel_rfl)) (by kernel_rfl) (by kernel_rfl) (by kernel_rfl)
      (by rw [MakeChecks.laidMetH_plain _ _ _ (by kernel_rfl)]; exact laidMet_laidAll _ (by kernel_rfl) (by kernel_rfl))) ?_
  intro W base args ds gs before hval0 hW hcnd hsz0 hsh hL _
  have hval : ∀ (j : Nat) t v, Tryz.f4.params[j]? = some t → args[j]? = some v → Value.okWide Tryz.prog W .any base t v := hval0
  have hW' := hW
  obtain ⟨p, q, hA0, hV, rfl, hfz, hnd⟩ := hW
  have hA : DataW.TrodAll enc Tryz.prog W 0 (fun _ => true) true Tryz.f4.params.toList args.toList ds p := hA0
  rw [Tryz.params4] at hA hval
  obtain ⟨v0, vs0, d0, ds0, p0, q0, hargs, rfl, rfl, h0, r0⟩ := trodAll_cons hA
  obtain ⟨rfl, rfl, rfl⟩ := trodAll_nil r0
  obtain rfl : args = #[v0] := by cases args; simp_all
  obtain ⟨rfl, rfl⟩ := trodVars_none hV
  have k0 := h0
  have lt0 : ∀ x ∈ p0, x.block < W.heap.size := by obtain ⟨m, hm⟩ := k0; exact DataW.trod_lt m _ _ _ hm
  obtain ⟨a0, len0, cap0, rfl⟩ := okWide_slice Tryz.underlying44 (hval 0 44 v0 rfl rfl)
  obtain ⟨fuel0, hf0⟩ := h0
  obtain ⟨A0, c0, l0, e0, hc0, hC0, hg0, hm0⟩ := Od.open_edits hf0
  simp only [Value.cells] at e0
  injection e0 with e0
  injection e0 with ea0 el0 ec0
  subst ea0 el0 ec0
  clear hA0 hval0 hsz0
  refine (Pure.DiffTurns _ _ l0 W (Cd.maxOk hsh) hC0 hc0).mono fun e W' ⟨he, bel⟩ => ?_
  subst he
  exact ⟨_, rfl, _, _, _, [], _, [], hW', trodAll_mk1 (shut_bool Tryz.underlying4 _), (trodAll_cons_mk (Below.trod laidOut (by kernel_rfl) (of_decide_eq_true (by kernel_rfl)) k0 bel lt0) trodAll_mk0), rfl, bel.frame _, fun h => by cases h⟩
theorem over : Rows.diffTurnsRow.holds Tryz.pinned (OpenSpec.ofChange Rows.diffTurnsSpec) :=
  OpenClaim.holds_of_wide 4 Tryz.f4 rfl rfl rfl rfl rfl rfl rfl ⟨rfl, rfl, rfl, rfl, rfl⟩ rfl rfl rfl rfl rfl (by kernel_rfl) Tryz.func4 (by kernel_rfl)
    (of_decide_eq_true (by kernel_rfl)) (by unfold Func.isWrapper; first | (rw [if_pos (by decide +kernel)]; kernel_rfl) | (rw [if_neg (by decide +kernel)]; exact ⟨rfl, rfl⟩))
    (fun os started H enc _ => lifted os started H enc)
theorem proved : Rows.DiffTurnsSaid := over
theorem card : Rows.DiffTurnsCardSaid :=
  Claim7.holds_tied_plain_at .later [] [.data, .pinned] true (true, "ecb3f4ba5ead400fcde4c6c9883a5d031d1d560189c301d00c86e215309236fa") false proved (fun _ h => by cases h) (by kernel_rfl) (fun _ h => by cases h) diffTurns_row_tie rfl ⟨rfl, rfl⟩ (by kernel_rfl) rfl
    (fun f fn hf hfn => by
      obtain rfl : f = 4 := Option.some.inj ((show Tryz.prog.funcNamed "monticule/monticulelaw09.DiffTurns" = some 4 by kernel_rfl).symm.trans hf) |>.symm
      obtain rfl : fn = Tryz.f4 := (Option.some.inj (Tryz.func4.symm.trans hfn)).symm
      exact ⟨by kernel_rfl, fun j t ht => by
        rw [Tryz.params4] at ht
        have hm : t ∈ [44] := by simpa using Array.mem_of_getElem? ht
        have hall : ([44].all fun u => !Tryz.prog.wantsStandIn u) = true := by kernel_rfl
        exact (show Tryz.prog.wantsStandIn t = false by simpa using List.all_eq_true.1 hall t hm)⟩)
    (by kernel_rfl)
#print axioms card
end Go.Proofs.YtmlebgikdegjjaaGreatDoor.diffTurns
namespace Go.Proofs.YtmlebgikdegjjaaGreatDoor
/-- The tied card, under a short name, for the claim. -/
theorem diffTurns_holds : Rows.DiffTurnsCardSaid := diffTurns.card
end Go.Proofs.YtmlebgikdegjjaaGreatDoor
