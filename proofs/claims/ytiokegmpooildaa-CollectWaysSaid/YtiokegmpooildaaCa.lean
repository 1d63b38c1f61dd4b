/- collect.Run of no heap; chapter 19's example: it holds. -/
import Derived.Test.YtiokegmpooildaaCt
namespace Go.Proofs.Ytiokegmpooildaa.Hp
open Go.RowKit Go.Proofs.YtiokegmpooildaaW.PrintWords Go.Proofs.YtiokegmpooildaaW.PrintLast Go.Proofs.YtiokegmpooildaaW.PrintMore Go.Proofs.Ytiokegmpooildaa.PAll
set_option linter.unusedVariables false
set_option linter.unusedSimpArgs false
def threeL : List S53 := [⟨0, [], []⟩, ⟨0, [], []⟩, ⟨0, [], []⟩]
theorem marks_three : collect_marks.f 10 threeL [2] = some [true, true, false] := by kernel_rfl
set_option maxHeartbeats 16000000 in
set_option maxRecDepth 100000 in
theorem run_nil (A : Option Addr) (n c : Nat) (w : World) : Calls Try.prog 36 #[.pointer none, .slice A n c] w fun e w' => e = .returned (.tuple #[.pointer none, .slice none 0 0, .int .i64 2]) ∧ Below w.heap.size w w' := by
  go_enter Try.func36, Try.ntmps36
  go_wp2_with (fail)
  go_ret3
  exact ⟨rfl, Below.refl _ _⟩
set_option maxHeartbeats 16000000 in
set_option maxRecDepth 100000 in
theorem awake19 (w : World) : Calls Try.prog 33 #[] w fun e w' => e = .returned (.bool true) ∧ Below w.heap.size w w' := by
  have HS := Aside0.mk (show SmallL threeL by unfold SmallL threeL; decide)
  have HW := Aside0.mk (show WordsL threeL by unfold WordsL W64 threeL; decide)
  have HO := Aside0.mk (show roomP 5 20 by unfold roomP; decide)
  have HER := Aside0.mk (show ofErr threeL 5 20 = 0 by decide)
  obtain ⟨rs, hrs⟩ : ∃ rs : List Int, [2] = rs := ⟨_, rfl⟩
  have HRS := Aside0.mk hrs
  have HR1 := Aside0.mk (show rs.length ≤ 100000 by rw [← hrs]; decide)
  have HR2 := Aside0.mk (show ∀ a ∈ rs, W64 a by rw [← hrs]; unfold W64; decide)
  have HM := Aside0.mk (show collect_marks.f 10 threeL rs = some [true, true, false] by rw [← hrs]; exact marks_three)
  clear hrs
  have HBL := Aside0.mk (show [true, true, false].length = threeL.length by decide)
  have HNE := Aside0.mk (show threeL ≠ [] by decide)
  have HKE := Aside0.mk (show ofErr (keptL (movedF (numsF [true, true, false] 0)) threeL (numsF [true, true, false] 0)) 5 20 = 0 by decide)
  have HK2 := Aside0.mk (show (((keptL (movedF (numsF [true, true, false] 0)) threeL (numsF [true, true, false] 0)).length : Nat) : Int) = 2 by decide)
  have HC := Aside0.mk (Below.refl w.heap.size w)
  go_enter Try.func33, Try.ntmps33
  go_wp2_with (first | ((with_reducible refine gate_dst (N := 10) rfl ?_); refine Kd.R_make k53 _ 53 ?hg (N := 10) ?hd 22 (.const (.int .i64 3)) (.const (.int .i64 3)) ?ho 3 ?hx ?hy Try.underlying22 (.agg #[(.int .u64 0), (.slice none 0 0), (.slice none 0 0)]) 56 info53_ rfl (by decide) (by decide) (⟨0, [], []⟩ : S53) (ok := fun _ => True) (okp := fun _ => True) (k53_mkM _ _ _ (⟨0, [], []⟩ : S53) (Kd.R_nil _ _ _ _ _) (Kd.R_nil _ _ _ _ _)) (fun _ h => h) trivial (by decide) (by decide) (Below.refl _ _) (Nat.le_refl _) ?_; (case hg => rfl); (case hd => rfl); (case ho => rfl); (case hx => rfl); (case hy => rfl); intro v1 w9 ho1 hb hg_ hat_; obtain ⟨A1, c1, e1, hl1, hC1⟩ := Kd.R_reads ho1; subst e1; have HV := Aside0.mk (show Kd.C k53 w9 A1 threeL.length threeL from hC1); have HL := Aside0.mk (show threeL.length ≤ c1 from hl1); have n0_ := Aside0.mk (below_step (by repeat (first | (with_reducible first | exact HC.out | apply below_alloc | apply pw_below_drewN | apply below_drew1) | exact HC.out)) hb); clear HC; have HC := n0_; clear n0_; clear hg_ hat_ ho1 hb hC1 hl1) | (go_at_call 14; refine (of_room A1 c1 threeL 5 20 _ HV.out HL.out HS.out HW.out HO.out).mono ?_; rintro e w' ⟨hy, hn, hb⟩; obtain ⟨gh, rfl, hg⟩ := hy HER.out; have HH := Aside0.mk hg.reads; have n0_ := Aside0.mk (below_step (by repeat (first | (with_reducible first | exact HC.out | apply below_alloc | apply pw_below_drewN | apply below_drew1) | exact HC.out)) hb); clear HC; have HC := n0_; clear n0_; clear hy hn hg hb) | ((with_reducible refine gate_dst (N := 16) rfl ?_); refine Kd.R_lit (Kd.int .u64) _ 36 ?hg (N := 16) ?hd (xs := ([2] : List Int)) (inner := [.int .u64 2]) (ok := fun _ => True) (okp := fun _ => True) ?hr ?hp (fun _ hk => hk) trivial (Below.refl _ _) (Nat.le_refl _) (by simp) ?_; (case hd => rfl); (case hg => rfl); (case hr => first | (go_simp; done) | (go_simp; rfl)); (case hp => exact (Reps.one (show Kd.M (Kd.int .u64) _ _ _ 2 [.int .u64 2] from rfl) (Reps.none _ _))); intro v2 w10 ho2 hb hg_ hnew_; obtain ⟨A2, c2, e2, hl2, hC2⟩ := Kd.R_reads ho2; rw [HRS.out] at e2 hl2 hC2; subst e2; have HV2 := Aside0.mk hC2; have HL2 := Aside0.mk hl2; have n1_ := Aside0.mk (HH.out.below (below_step (by repeat (first | (with_reducible first | exact Below.refl _ _ | apply below_alloc | apply pw_below_drewN | apply below_drew1) | exact Below.refl _ _)) hb)); have n0_ := Aside0.mk (below_step (by repeat (first | (with_reducible first | exact HC.out | apply below_alloc | apply pw_below_drewN | apply below_drew1) | exact HC.out)) hb); clear HC; have HC := n0_; clear n0_; clear HH; have HH := n1_; clear n1_ hg_ hnew_ ho2 hb hC2 hl2) | (go_at_call 36; (with_reducible refine (collect_run gh A2 c2 rs threeL 5 20 _ [true, true, false] 10 _ (HH.out.below (by repeat (first | (with_reducible first | exact Below.refl _ _ | apply below_alloc | apply pw_below_drewN | apply below_drew1) | exact Below.refl _ _))) HS.out HW.out HO.out (Kd.C_below HV2.out (by repeat (first | (with_reducible first | exact Below.refl _ _ | apply below_alloc | apply pw_below_drewN | apply below_drew1) | exact Below.refl _ _))) HL2.out HR1.out HR2.out HM.out HBL.out HNE.out HKE.out).mono ?_); rintro e w' ⟨gn, At, ct, rfl, hG, _, _, hb⟩; have HG := Aside0.mk hG; have n1_ := Aside0.mk (HH.out.below (below_step (by repeat (first | (with_reducible first | exact Below.refl _ _ | apply below_alloc | apply pw_below_drewN | apply below_drew1) | exact Below.refl _ _)) hb)); have n0_ := Aside0.mk (below_step (by repeat (first | (with_reducible first | exact HC.out | apply below_alloc | apply pw_below_drewN | apply below_drew1) | exact HC.out)) hb); clear HC; have HC := n0_; clear n0_; clear HH; have HH := n1_; clear n1_ hG hb) | (go_at_call 36; (with_reducible refine (run_nil none 0 0 _).mono ?_); rintro e w' ⟨rfl, hb⟩; have n1_ := Aside0.mk (HG.out.below (below_step (by repeat (first | (with_reducible first | exact Below.refl _ _ | apply below_alloc | apply pw_below_drewN | apply below_drew1) | exact Below.refl _ _)) hb)); have n0_ := Aside0.mk (below_step (by repeat (first | (with_reducible first | exact HC.out | apply below_alloc | apply pw_below_drewN | apply below_drew1) | exact HC.out)) hb); clear HC; have HC := n0_; clear n0_; clear HG; have HG := n1_; clear n1_ hb) | (go_at_call 23; (with_reducible refine (heap_Len gn _ 5 20 _ _ (HG.out.below (by repeat (first | (with_reducible first | exact Below.refl _ _ | apply below_alloc | apply pw_below_drewN | apply below_drew1) | exact Below.refl _ _)))).mono ?_); rintro e w' ⟨rfl, ⟨nd, rfl⟩⟩; rw [HK2.out]))
  go_ret
  exact ⟨rfl, (by repeat (first | (with_reducible first | exact HC.out | apply below_alloc | apply pw_below_drewN | apply below_drew1) | exact HC.out))⟩
end Go.Proofs.Ytiokegmpooildaa.Hp
