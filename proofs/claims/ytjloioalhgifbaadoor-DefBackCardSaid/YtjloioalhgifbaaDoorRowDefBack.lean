/- The law DefBack holds for every input; its listed package-level variables are tied to the program's text. -/
import Derived.Test.YtjloioalhgifbaaDoorRows
import Derived.Test.YtjloioalhgifbaaDoorQy
import Derived.Test.YtjloioalhgifbaaDoorPureDefBack
import Derived.Test.YtjloioalhgifbaaDoorCards
import Derived.Test.YtjloioalhgifbaaDoorTie
import Derived.Test.YtjloioalhgifbaaDoorCd
import Derived.Test.YtjloioalhgifbaaDoorOr
import Derived.Test.YtjloioalhgifbaaDoorQy
import Derived.WalkKit
import Derived.ProofKit
import Derived.OpenShut
import Derived.ShutString
import Derived.ChangeOld
import Derived.Below
import Derived.SizedLaws
import Derived.LaidMore
import Derived.Lay
import Derived.SevenTiedAt
import Derived.Stop.Joined
namespace Go.Proofs.YtjloioalhgifbaaDoor.defBack
open Go.ChangeShapes Go.WideShapes Go.ChangeAt Go.RowKit
open Go.ChangeMaps (open_string shut_string)
set_option linter.unusedVariables false
theorem own : ownKnob Tryd.prog.godebug = none := by kernel_rfl
theorem laidOut : laidOutB Tryd.prog = true := by kernel_rfl
set_option maxHeartbeats 4000000 in
set_option maxRecDepth 100000 in
theorem lifted (os : Os) (started : os.Started) (H : Type) (enc : TypeId × Value → H) :
    ReturnsInHanded {} Tryd.checked os 10 .any (fun w args => (Rows.defBackSpec.pre enc Tryd.prog Tryd.f10 Rows.defBackRow.domain false w args ∧ laidMetH Tryd.prog Rows.defBackRow.laid w) ∧ sizedMet enc Tryd.prog Tryd.f10 (OpenSpec.ofChange Rows.defBackSpec) false w args) (Rows.defBackSpec.post enc Tryd.prog Tryd.f10 false true false false) := by
  refine Cd.handed_shaped (C := Tryd.checked) (X := fun w _ => laidMetH Tryd.prog Rows.defBackRow.laid w) (fun _ _ _ hh h => h.of_heap hh) own started (by kernel_rfl) Tryd.func10
    (ChangeSpec.witness_shaped (enc := enc) (C := Tryd.checked) (os := os) (X := fun w _ => laidMetH Tryd.prog Rows.defBackRow.laid w) false (World.laidAll Tryd.prog os Rows.defBackRow.laid) #[.agg #[.int .i64 0, .string ByteArray.empty, .string ByteArray.empty, .slice none 0 0, .string ByteArray.empty, .string ByteArray.empty]] 8 (World.laidAll_os _ _ _)
      (World.shaped_of_ZipB (by kernel_rfl) (by kernel_rfl)) (by kernel_rfl) (by kernel_rfl) (by kernel_rfl)
      (by rw [MakeChecks.laidMetH_plain _ _ _ (by kernel_rfl)]; exact laidMet_laidAll _ (by kernel_rfl) (by kernel_rfl))) ?_
  intro W base args ds gs before hval0 hW hcnd hsz0 hsh hL _
  have hval : ∀ (j : Nat) t v, Tryd.f10.params[j]? = some t → args[j]? = some v → Value.okWide Tryd.prog W .any base t v := hval0
  have hW' := hW
  obtain ⟨p, q, hA0, hV, rfl, hfz, hnd⟩ := hW
  have hA : DataW.TrodAll enc Tryd.prog W 0 (fun _ => true) true Tryd.f10.params.toList args.toList ds p := hA0
  rw [Tryd.params10] at hA hval
  obtain ⟨v0, vs0, d0, ds0, p0, q0, hargs, rfl, rfl, h0, r0⟩ := trodAll_cons hA
  obtain ⟨rfl, rfl, rfl⟩ := trodAll_nil r0
  obtain rfl : args = #[v0] := by cases args; simp_all
  obtain ⟨rfl, rfl⟩ := trodVars_none hV
  have k0 := h0
  have lt0 : ∀ x ∈ p0, x.block < W.heap.size := by obtain ⟨m, hm⟩ := k0; exact DataW.trod_lt m _ _ _ hm
  obtain ⟨kd0, c0, s0, A0, cp0, v0_, l0, t0, rfl, hcp0, hC0, hw0, z0⟩ := Od.open_def (hval 0 31 v0 rfl rfl) h0
  clear hA0 hval0 hsz0
  obtain ⟨k, sm, rb, n7, od, ob, o1, hw, hsm, hx⟩ := Pure.DefBack kd0 c0 s0 v0_ l0 t0
  refine (Hd.law_back k kd0 c0 s0 _ _ v0_ l0 t0 sm rb n7 od ob o1 W hC0 hcp0 hw hsm hx).mono fun e W' ⟨he, bel⟩ => ?_
  subst he
  exact ⟨_, rfl, _, _, _, [], _, [], hW', trodAll_mk1 (shut_bool Tryd.underlying4 _), (trodAll_cons_mk (Below.trod laidOut (by kernel_rfl) (of_decide_eq_true (by kernel_rfl)) k0 bel lt0) trodAll_mk0), rfl, bel.frame _, fun h => by cases h⟩
theorem over : Rows.defBackRow.holds Tryd.pinned (OpenSpec.ofChange Rows.defBackSpec) :=
  OpenClaim.holds_of_wide 10 Tryd.f10 rfl rfl rfl rfl rfl rfl rfl ⟨rfl, rfl, rfl, rfl, rfl⟩ rfl rfl rfl rfl rfl (by kernel_rfl) Tryd.func10 (by kernel_rfl)
    (of_decide_eq_true (by kernel_rfl)) (by unfold Func.isWrapper; first | (rw [if_pos (by decide +kernel)]; kernel_rfl) | (rw [if_neg (by decide +kernel)]; exact ⟨rfl, rfl⟩))
    (fun os started H enc _ => lifted os started H enc)
theorem proved : Rows.DefBackSaid := over
theorem card : Rows.DefBackCardSaid :=
  Claim7.holds_tied_plain_at .later [] [.data, .pinned] true (true, "283b9a2fc4d07e29c6026dee4f6f0864983083194784b3e8bdd064e0a61ca34d") false proved (fun _ h => by cases h) (by kernel_rfl) (fun _ h => by cases h) defBack_row_tie rfl ⟨rfl, rfl⟩ (by kernel_rfl) rfl
    (fun f fn hf hfn => by
      obtain rfl : f = 10 := Option.some.inj ((show Tryd.prog.funcNamed "monticule/monticulelaw07.DefBack" = some 10 by kernel_rfl).symm.trans hf) |>.symm
      obtain rfl : fn = Tryd.f10 := (Option.some.inj (Tryd.func10.symm.trans hfn)).symm
      exact ⟨by kernel_rfl, fun j t ht => by
        rw [Tryd.params10] at ht
        have hm : t ∈ [31] := by simpa using Array.mem_of_getElem? ht
        have hall : ([31].all fun u => !Tryd.prog.wantsStandIn u) = true := by kernel_rfl
        exact (show Tryd.prog.wantsStandIn t = false by simpa using List.all_eq_true.1 hall t hm)⟩)
    (by kernel_rfl)
#print axioms card
end Go.Proofs.YtjloioalhgifbaaDoor.defBack
namespace Go.Proofs.YtjloioalhgifbaaDoor
/-- The tied card, under a short name, for the claim. -/
theorem defBack_holds : Rows.DefBackCardSaid := defBack.card
end Go.Proofs.YtjloioalhgifbaaDoor
