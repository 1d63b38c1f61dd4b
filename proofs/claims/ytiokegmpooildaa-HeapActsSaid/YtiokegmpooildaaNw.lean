/- heap.New; chapter 18's example: it holds. -/
import Derived.Test.YtiokegmpooildaaMf
namespace Go.Proofs.Ytiokegmpooildaa.Hp
open Go.RowKit Go.Proofs.YtiokegmpooildaaW.PrintWords Go.Proofs.YtiokegmpooildaaW.PrintLast Go.Proofs.YtiokegmpooildaaW.PrintMore Go.Proofs.Ytiokegmpooildaa.PAll
set_option linter.unusedVariables false
set_option linter.unusedSimpArgs false
theorem below_stepB {w W w2 : World} (h : Below w.heap.size w W) (k : Below w.heap.size W w2) : Below w.heap.size w w2 := h.trans k

/-- nil alone. -/
def oneL : List S53 := [⟨0, [], []⟩]
set_option maxHeartbeats 16000000 in
set_option maxRecDepth 100000 in
theorem heap_New (o wd : Int) (w : World) (ho : 1 ≤ o ∧ o ≤ 4096) (hw : 2 ≤ wd ∧ wd ≤ 1073741824) :
    Calls Try.prog 29 #[.int .i64 o, .int .i64 wd] w fun e w' => ∃ g, e = .returned (.tuple #[.pointer (some ⟨g, 0, none⟩), .int .i64 0]) ∧ HeapO w' g w.heap.size (fun k => w.heap.size ≤ k) oneL o wd 2 ∧ Below w.heap.size w w' := by
  have HS := Aside0.mk (show SmallL oneL by unfold SmallL oneL; decide)
  have HW := Aside0.mk (show WordsL oneL by unfold WordsL W64 oneL; decide)
  have HO := Aside0.mk (show roomP o wd from ⟨ho.1, ho.2, hw.1, hw.2⟩)
  have HER := Aside0.mk (show ofErr oneL o wd = 0 by
    have e1 : usedL oneL = 2 := by decide
    have e2 : oneL.any (badO oneL.length) = false := by decide
    have e3 : ((oneL.length : Nat) : Int) = 1 := by decide
    unfold ofErr
    rw [e1, e2, e3, if_neg (by omega), if_neg (by decide), if_neg (by decide)])
  have HC := Aside0.mk (Below.refl w.heap.size w)
  clear ho hw
  go_enter Try.func29, Try.ntmps29
  go_wp2_with (first | ((with_reducible refine gate_dst (N := 6) rfl ?_); refine Kd.R_make k53 _ 53 ?hg (N := 6) ?hd 22 (.const (.int .i64 1)) (.const (.int .i64 1)) ?ho 1 ?hx ?hy Try.underlying22 (.agg #[(.int .u64 0), (.slice none 0 0), (.slice none 0 0)]) 56 info53_ rfl (by decide) (by decide) (⟨0, [], []⟩ : S53) (ok := fun _ => True) (okp := fun _ => True) (k53_mkM _ _ _ (⟨0, [], []⟩ : S53) (Kd.R_nil _ _ _ _ _) (Kd.R_nil _ _ _ _ _)) (fun _ h => h) trivial (by decide) (by decide) (Below.refl _ _) (Nat.le_refl _) ?_; (case hg => rfl); (case hd => rfl); (case ho => rfl); (case hx => rfl); (case hy => rfl); intro v1 w9 ho1 hb hg_ hat_; obtain ⟨A1, c1, e1, hl1, hC1⟩ := Kd.R_reads ho1; subst e1; have HV := Aside0.mk (show Kd.C k53 w9 A1 oneL.length oneL from hC1); have HL := Aside0.mk (show oneL.length ≤ c1 from hl1); have n0_ := Aside0.mk (below_step (by repeat (first | (with_reducible first | exact HC.out | apply below_alloc | apply pw_below_drewN | apply below_drew1) | exact HC.out)) hb); clear HC hg_ hat_ ho1 hb hC1 hl1; have HC := n0_; clear n0_) | (go_at_call 14; refine (of_room A1 c1 oneL o wd _ HV.out HL.out HS.out HW.out HO.out).mono ?_; rintro e w' ⟨hy, hn, hb⟩; obtain ⟨gn, rfl, hg⟩ := hy HER.out; have n0_ := Aside0.mk (below_step (by repeat (first | (with_reducible first | exact HC.out | apply below_alloc | apply pw_below_drewN | apply below_drew1) | exact HC.out)) hb); have HG := Aside0.mk (hg.weaken HC.out.size); clear HC hy hn hb hg; have HC := n0_; clear n0_))
  go_ret2
  exact ⟨gn, rfl, HG.out, (by repeat (first | (with_reducible first | exact HC.out | apply below_alloc | apply pw_below_drewN | apply below_drew1) | exact HC.out))⟩
set_option maxHeartbeats 16000000 in
set_option maxRecDepth 100000 in
theorem awake18 (w : World) : Calls Try.prog 20 #[] w fun e w' => e = .returned (.bool true) ∧ Below w.heap.size w w' := by
  have HC := Aside0.mk (Below.refl w.heap.size w)
  have E1 := Aside0.mk (show 2 * ((oneL.length : Nat) : Int) = 2 by decide)
  have E2 := Aside0.mk (show slotErr (oneL ++ [newO 0 2 []]) 2 1 = 0 by decide)
  have E3 := Aside0.mk (show rd (objectL (oneL ++ [newO 0 2 []]) 2).f1 1 = 0 by decide)
  have E4 := Aside0.mk (show (((oneL ++ [newO 0 2 []]).length : Nat) : Int) = 2 by decide)
  go_enter Try.func20, Try.ntmps20
  go_wp2_with (first | (go_at_call 29; (with_reducible refine (heap_New 10 100 _ (by decide) (by decide)).mono ?_); rintro e w1 ⟨g, rfl, hO, hb⟩; have HO := Aside0.mk (hO.weaken HC.out.size); have n0_ := Aside0.mk (below_step (by repeat (first | (with_reducible first | exact HC.out | apply below_alloc | apply pw_below_drewN | apply below_drew1) | exact HC.out)) hb); clear HC hO hb; have HC := n0_; clear n0_) | (go_at_call 30; refine (heap_Make_ok g w.heap.size 0 2 none 0 [] oneL 10 100 2 w _ HO.out (by decide) (by unfold W64; decide) (by decide) (by decide) (by decide) (by decide) (Kd.C_nil _ _) (Nat.le_refl _) (by repeat (first | (with_reducible first | exact HC.out | apply below_alloc | apply pw_below_drewN | apply below_drew1) | exact HC.out)) (Nat.le_refl _) (by decide) (by decide) (by decide) (by decide) (by decide)).mono ?_; rintro e w2 ⟨rfl, hO, hb⟩; rw [E1.out]; have n0_ := Aside0.mk hO.reads; have n1_ := Aside0.mk (below_stepB (by repeat (first | (with_reducible first | exact HC.out | apply below_alloc | apply pw_below_drewN | apply below_drew1) | exact HC.out)) hb); clear HC HO hO hb; have HH := n0_; have HC := n1_; clear n0_ n1_) | (go_at_call 45; refine (heap_Get g 2 1 (oneL ++ [newO 0 2 []]) 10 100 _ _ (HH.out.below (by repeat (first | (with_reducible first | exact Below.refl _ _ | apply pw_below_drewN) | exact Below.refl _ _))) (by decide) (by unfold W64; decide)).mono ?_; rintro e w3 ⟨rfl, ⟨nd, rfl⟩⟩; rw [E2.out, if_pos rfl, E3.out]) | (go_at_call 23; refine (heap_Len g (oneL ++ [newO 0 2 []]) 10 100 _ _ (HH.out.below (by repeat (first | (with_reducible first | exact Below.refl _ _ | apply pw_below_drewN) | exact Below.refl _ _)))).mono ?_; rintro e w4 ⟨rfl, ⟨nd2, rfl⟩⟩; rw [E4.out]))
  go_ret
  exact ⟨rfl, (by repeat (first | (with_reducible first | exact HC.out | apply below_alloc | apply pw_below_drewN | apply below_drew1) | exact HC.out))⟩
end Go.Proofs.Ytiokegmpooildaa.Hp
