/- The law DefOrders holds for every input; its listed package-level variables are tied to the program's text. -/
import Derived.Test.YtjloioalhgifbaaDoorRows
import Derived.Test.YtjloioalhgifbaaDoorLo
import Derived.Test.YtjloioalhgifbaaDoorPureDefOrders
import Derived.Test.YtjloioalhgifbaaDoorCards
import Derived.Test.YtjloioalhgifbaaDoorTie
import Derived.Test.YtjloioalhgifbaaDoorCd
import Derived.Test.YtjloioalhgifbaaDoorOr
import Derived.Test.YtjloioalhgifbaaDoorOt
import Derived.WalkKit
import Derived.ProofKit
import Derived.OpenShut
import Derived.ShutString
import Derived.ChangeOld
import Derived.Below
import Derived.SizedLaws
import Derived.LaidMore
import Derived.Lay
import Derived.SevenTiedAt
import Derived.Stop.Joined
namespace Go.Proofs.YtjloioalhgifbaaDoor.defOrders
open Go.ChangeShapes Go.WideShapes Go.ChangeAt Go.RowKit
open Go.ChangeMaps (open_string shut_string)
set_option linter.unusedVariables false
theorem own : ownKnob Tryd.prog.godebug = none := by kernel_rfl
theorem laidOut : laidOutB Tryd.prog = true := by kernel_rfl
set_option maxHeartbeats 4000000 in
set_option maxRecDepth 100000 in
theorem lifted (os : Os) (started : os.Started) (H : Type) (enc : TypeId × Value → H) :
    ReturnsInHanded {} Tryd.checked os 6 .any (fun w args => (Rows.defOrdersSpec.pre enc Tryd.prog Tryd.f6 Rows.defOrdersRow.domain false w args ∧ laidMetH Tryd.prog Rows.defOrdersRow.laid w) ∧ sizedMet enc Tryd.prog Tryd.f6 (OpenSpec.ofChange Rows.defOrdersSpec) false w args) (Rows.defOrdersSpec.post enc Tryd.prog Tryd.f6 false true false false) := by
  refine Cd.handed_shaped (C := Tryd.checked) (X := fun w _ => laidMetH Tryd.prog Rows.defOrdersRow.laid w) (fun _ _ _ hh h => h.of_heap hh) own started (by kernel_rfl) Tryd.func6
    (ChangeSpec.witness_shaped (enc := enc) (C := Tryd.checked) (os := os) (X := fun w _ => laidMetH Tryd.prog Rows.defOrdersRow.laid w) false (World.laidAll Tryd.prog os Rows.defOrdersRow.laid) #[.agg #[.int .i64 0, .string ByteArray.empty, .string ByteArray.empty, .slice none 0 0, .string ByteArray.empty, .string ByteArray.empty, .int .i64 0, .string ByteArray.empty, .string ByteArray.empty, .slice none 0 0, .string ByteArray.empty, .string ByteArray.empty, .int .i64 0, .string ByteArray.empty, .string ByteArray.empty, .slice none 0 0, .string ByteArray.empty, .string ByteArray.empty]] 8 (World.laidAll_os _ _ _)
      (World.shaped_of_ZipB (by kernel_rfl) (by kernel_rfl)) (by kernel_rfl) (by kernel_rfl) (by kernel_rfl)
      (by rw [MakeChecks.laidMetH_plain _ _ _ (by kernel_rfl)]; exact laidMet_laidAll _ (by kernel_rfl) (by kernel_rfl))) ?_
  intro W base args ds gs before hval0 hW hcnd hsz0 hsh hL _
  have hval : ∀ (j : Nat) t v, Tryd.f6.params[j]? = some t → args[j]? = some v → Value.okWide Tryd.prog W .any base t v := hval0
  have hW' := hW
  obtain ⟨p, q, hA0, hV, rfl, hfz, hnd⟩ := hW
  have hA : DataW.TrodAll enc Tryd.prog W 0 (fun _ => true) true Tryd.f6.params.toList args.toList ds p := hA0
  rw [Tryd.params6] at hA hval
  obtain ⟨v0, vs0, d0, ds0, p0, q0, hargs, rfl, rfl, h0, r0⟩ := trodAll_cons hA
  obtain ⟨rfl, rfl, rfl⟩ := trodAll_nil r0
  obtain rfl : args = #[v0] := by cases args; simp_all
  obtain ⟨rfl, rfl⟩ := trodVars_none hV
  have k0 := h0
  have lt0 : ∀ x ∈ p0, x.block < W.heap.size := by obtain ⟨m, hm⟩ := k0; exact DataW.trod_lt m _ _ _ hm
  obtain ⟨kd0, c0, s0, A0, cp0, v0, l0, t0, kd1, c1, s1, A1, cp1, v1, l1, t1, kd2, c2, s2, A2, cp2, v2, l2, t2, rfl, ⟨hcp0, hC0⟩, ⟨hcp1, hC1⟩, ⟨hcp2, hC2⟩⟩ := Od.open_def3 (hval 0 32 v0 rfl rfl) h0
  clear hA0 hval0 hsz0
  obtain ⟨k, hw, q0, q1, q2, x01, x12, x02, x00, x10⟩ := Pure.DefOrders kd0 c0 s0 v0 l0 t0 kd1 c1 s1 v1 l1 t1 kd2 c2 s2 v2 l2 t2
  refine (Hd.law_orders k kd0 c0 s0 _ _ v0 l0 t0 kd1 c1 s1 _ _ v1 l1 t1 kd2 c2 s2 _ _ v2 l2 t2 _ _ _ _ _ _ W hC0 hcp0 hC1 hcp1 hC2 hcp2 hw q0 q1 q2 x01 x12 x02 x00 x10 (Pure.cmp_three _ _) (Pure.cmp_three _ _) (Pure.cmp_three _ _) (Pure.cmp_on _ _ _) (Pure.cmp_same _ _ _)).mono fun e W' ⟨he, bel⟩ => ?_
  subst he
  exact ⟨_, rfl, _, _, _, [], _, [], hW', trodAll_mk1 (shut_bool Tryd.underlying4 _), (trodAll_cons_mk (Below.trod laidOut (by kernel_rfl) (of_decide_eq_true (by kernel_rfl)) k0 bel lt0) trodAll_mk0), rfl, bel.frame _, fun h => by cases h⟩
theorem over : Rows.defOrdersRow.holds Tryd.pinned (OpenSpec.ofChange Rows.defOrdersSpec) :=
  OpenClaim.holds_of_wide 6 Tryd.f6 rfl rfl rfl rfl rfl rfl rfl ⟨rfl, rfl, rfl, rfl, rfl⟩ rfl rfl rfl rfl rfl (by kernel_rfl) Tryd.func6 (by kernel_rfl)
    (of_decide_eq_true (by kernel_rfl)) (by unfold Func.isWrapper; first | (rw [if_pos (by decide +kernel)]; kernel_rfl) | (rw [if_neg (by decide +kernel)]; exact ⟨rfl, rfl⟩))
    (fun os started H enc _ => lifted os started H enc)
theorem proved : Rows.DefOrdersSaid := over
theorem card : Rows.DefOrdersCardSaid :=
  Claim7.holds_tied_plain_at .later [] [.data, .pinned] true (true, "283b9a2fc4d07e29c6026dee4f6f0864983083194784b3e8bdd064e0a61ca34d") false proved (fun _ h => by cases h) (by kernel_rfl) (fun _ h => by cases h) defOrders_row_tie rfl ⟨rfl, rfl⟩ (by kernel_rfl) rfl
    (fun f fn hf hfn => by
      obtain rfl : f = 6 := Option.some.inj ((show Tryd.prog.funcNamed "monticule/monticulelaw07.DefOrders" = some 6 by kernel_rfl).symm.trans hf) |>.symm
      obtain rfl : fn = Tryd.f6 := (Option.some.inj (Tryd.func6.symm.trans hfn)).symm
      exact ⟨by kernel_rfl, fun j t ht => by
        rw [Tryd.params6] at ht
        have hm : t ∈ [32] := by simpa using Array.mem_of_getElem? ht
        have hall : ([32].all fun u => !Tryd.prog.wantsStandIn u) = true := by kernel_rfl
        exact (show Tryd.prog.wantsStandIn t = false by simpa using List.all_eq_true.1 hall t hm)⟩)
    (by kernel_rfl)
#print axioms card
end Go.Proofs.YtjloioalhgifbaaDoor.defOrders
namespace Go.Proofs.YtjloioalhgifbaaDoor
/-- The tied card, under a short name, for the claim. -/
theorem defOrders_holds : Rows.DefOrdersCardSaid := defOrders.card
end Go.Proofs.YtjloioalhgifbaaDoor
