/- The law DiffChains holds for every input; its listed package-level variables are tied to the program's text. -/
import Derived.Test.YtmlebgikdegjjaaGreatDoorRows
import Derived.Test.YtmlebgikdegjjaaGreatDoorPureDiffChains
import Derived.Test.YtmlebgikdegjjaaGreatDoorCards
import Derived.Test.YtmlebgikdegjjaaGreatDoorTie
import Derived.Test.YtmlebgikdegjjaaGreatDoorCd
import Derived.Test.YtmlebgikdegjjaaGreatDoorOr
import Derived.Test.YtmlebgikdegjjaaGreatDoorO3
import Derived.WalkKit
import Derived.ProofKit
import Derived.OpenShut
import Derived.ShutString
import Derived.ChangeOld
import Derived.Below
import Derived.SizedLaws
import Derived.LaidMore
import Derived.Lay
import Derived.SevenTiedAt
import Derived.Stop.Joined
namespace Go.Proofs.YtmlebgikdegjjaaGreatDoor.diffChains
open Go.ChangeShapes Go.WideShapes Go.ChangeAt Go.RowKit
open Go.ChangeMaps (open_string shut_string)
set_option linter.unusedVariables false
theorem own : ownKnob Tryz.prog.godebug = none := by kernel_rfl
theorem laidOut : laidOutB Tryz.prog = true := by kernel_rfl
set_option maxHeartbeats 4000000 in
set_option maxRecDepth 100000 in
theorem lifted (os : Os) (started : os.Started) (H : Type) (enc : TypeId × Value → H) :
    ReturnsInHanded {} Tryz.checked os 11 .any (fun w args => (Rows.diffChainsSpec.pre enc Tryz.prog Tryz.f11 Rows.diffChainsRow.domain false w args ∧ laidMetH Tryz.prog Rows.diffChainsRow.laid w) ∧ sizedMet enc Tryz.prog Tryz.f11 (OpenSpec.ofChange Rows.diffChainsSpec) false w args) (Rows.diffChainsSpec.post enc Tryz.prog Tryz.f11 false true false false) := by
  refine Cd.handed_shaped (C := Tryz.checked) (X := fun w _ => laidMetH Tryz.prog Rows.diffChainsRow.laid w) (fun _ _ _ hh h => h.of_heap hh) own started (by kernel_rfl) Tryz.func11
    (ChangeSpec.witness_shaped (enc := enc) (C := Tryz.checked) (os := os) (X := fun w _ => laidMetH Tryz.prog Rows.diffChainsRow.laid w) false (World.laidAll Tryz.prog os Rows.diffChainsRow.laid) #[.agg #[.slice none 0 0, .slice none 0 0, .slice none 0 0]] 8 (World.laidAll_os _ _ _)
      (World.shaped_of_ZipB (by kernel_rfl) (by kernel_rfl)) (by kernel_rfl) (by kernel_rfl) (by kernel_rfl)
      (by rw [MakeChecks.laidMetH_plain _ _ _ (by kernel_rfl)]; exact laidMet_laidAll _ (by kernel_rfl) (by kernel_rfl))) ?_
  intro W base args ds gs before hval0 hW hcnd hsz0 hsh hL _
  have hval : ∀ (j : Nat) t v, Tryz.f11.params[j]? = some t → args[j]? = some v → Value.okWide Tryz.prog W .any base t v := hval0
  have hW' := hW
  obtain ⟨p, q, hA0, hV, rfl, hfz, hnd⟩ := hW
  have hA : DataW.TrodAll enc Tryz.prog W 0 (fun _ => true) true Tryz.f11.params.toList args.toList ds p := hA0
  rw [Tryz.params11] at hA hval
  obtain ⟨v0, vs0, d0, ds0, p0, q0, hargs, rfl, rfl, h0, r0⟩ := trodAll_cons hA
  obtain ⟨rfl, rfl, rfl⟩ := trodAll_nil r0
  obtain rfl : args = #[v0] := by cases args; simp_all
  obtain ⟨rfl, rfl⟩ := trodVars_none hV
  have k0 := h0
  have lt0 : ∀ x ∈ p0, x.block < W.heap.size := by obtain ⟨m, hm⟩ := k0; exact DataW.trod_lt m _ _ _ hm
  obtain ⟨A0, c0, l0, A1, c1, l1, A2, c2, l2, rfl, ⟨hc0, hC0⟩, ⟨hc1, hC1⟩, ⟨hc2, hC2⟩⟩ := Od.open_defs3 (hval 0 58 v0 rfl rfl) h0
  clear hA0 hval0 hsz0
  refine (Pure.DiffChains _ _ l0 _ _ l1 _ _ l2 W (Cd.maxOk hsh) hC0 hc0 hC1 hc1 hC2 hc2).mono fun e W' ⟨he, bel⟩ => ?_
  subst he
  exact ⟨_, rfl, _, _, _, [], _, [], hW', trodAll_mk1 (shut_bool Tryz.underlying4 _), (trodAll_cons_mk (Below.trod laidOut (by kernel_rfl) (of_decide_eq_true (by kernel_rfl)) k0 bel lt0) trodAll_mk0), rfl, bel.frame _, fun h => by cases h⟩
theorem over : Rows.diffChainsRow.holds Tryz.pinned (OpenSpec.ofChange Rows.diffChainsSpec) :=
  OpenClaim.holds_of_wide 11 Tryz.f11 rfl rfl rfl rfl rfl rfl rfl ⟨rfl, rfl, rfl, rfl, rfl⟩ rfl rfl rfl rfl rfl (by kernel_rfl) Tryz.func11 (by kernel_rfl)
    (of_decide_eq_true (by kernel_rfl)) (by unfold Func.isWrapper; first | (rw [if_pos (by decide +kernel)]; kernel_rfl) | (rw [if_neg (by decide +kernel)]; exact ⟨rfl, rfl⟩))
    (fun os started H enc _ => lifted os started H enc)
theorem proved : Rows.DiffChainsSaid := over
theorem card : Rows.DiffChainsCardSaid :=
  Claim7.holds_tied_plain_at .later [] [.data, .pinned] true (true, "ecb3f4ba5ead400fcde4c6c9883a5d031d1d560189c301d00c86e215309236fa") false proved (fun _ h => by cases h) (by kernel_rfl) (fun _ h => by cases h) diffChains_row_tie rfl ⟨rfl, rfl⟩ (by kernel_rfl) rfl
    (fun f fn hf hfn => by
      obtain rfl : f = 11 := Option.some.inj ((show Tryz.prog.funcNamed "monticule/monticulelaw09.DiffChains" = some 11 by kernel_rfl).symm.trans hf) |>.symm
      obtain rfl : fn = Tryz.f11 := (Option.some.inj (Tryz.func11.symm.trans hfn)).symm
      exact ⟨by kernel_rfl, fun j t ht => by
        rw [Tryz.params11] at ht
        have hm : t ∈ [58] := by simpa using Array.mem_of_getElem? ht
        have hall : ([58].all fun u => !Tryz.prog.wantsStandIn u) = true := by kernel_rfl
        exact (show Tryz.prog.wantsStandIn t = false by simpa using List.all_eq_true.1 hall t hm)⟩)
    (by kernel_rfl)
#print axioms card
end Go.Proofs.YtmlebgikdegjjaaGreatDoor.diffChains
namespace Go.Proofs.YtmlebgikdegjjaaGreatDoor
/-- The tied card, under a short name, for the claim. -/
theorem diffChains_holds : Rows.DiffChainsCardSaid := diffChains.card
end Go.Proofs.YtmlebgikdegjjaaGreatDoor
