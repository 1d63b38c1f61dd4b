/- BecomeBoth, walked: it holds on every list of objects and of pairs. -/
import Derived.Test.YtiokegmpooildaaPx
import Derived.Test.YtiokegmpooildaaAw
namespace Go.Proofs.Ytiokegmpooildaa.Hp
open Go.RowKit Go.Proofs.YtiokegmpooildaaW.PrintWords Go.Proofs.YtiokegmpooildaaW.PrintLast Go.Proofs.YtiokegmpooildaaW.PrintMore Go.Proofs.Ytiokegmpooildaa.PAll Go.Proofs.Ytiokegmpooildaa.Rb
set_option linter.unusedVariables false
set_option linter.unusedSimpArgs false

theorem heap53 : Kd.Heap k53 := Kd.heap_iso _ (Kd.heap_pair (Kd.heap_int _) (Kd.heap_pair (Kd.heap_slice _ (Kd.heap_int _)) (Kd.heap_slice _ (Kd.heap_int _))))

def othersL (ps : List S38) (x : Int) : List S38 := (ps.drop (x + 1).toNat).reverse.map flip38
theorem othersL_next (ps : List S38) (x : Int) (h0 : 0 ≤ x) (h1 : x < (ps.length : Int)) : othersL ps (x - 1) = othersL ps x ++ [⟨(rd_T38 ps x).f1, (rd_T38 ps x).f0⟩] := by
  unfold othersL
  have e : (x - 1 + 1).toNat = x.toNat := by omega
  rw [e, drop38 ps x h0 h1, List.reverse_cons, List.map_append]
  rfl
theorem othersL_length (ps : List S38) (x : Int) : (othersL ps x).length ≤ ps.length := by
  unfold othersL
  simp
theorem info38_ : (Try.prog.info? 38).map (fun i => (i.zero, i.size, i.bytes)) = some (some (.agg #[.int .u64 0, .int .u64 0]), 2, 16) := by kernel_rfl
def lb.T15 : Bool × List (List Nat × List Nat) := (true, [([], []), ([], []), ([], []), ([1, 2], [1, 2]), ([3], [3]), ([4], [4]), ([], []), ([], []), ([6, 7], [6, 7]), ([8], [8]), ([9], [9]), ([5, 10], [5, 10]), ([11], [11]), ([0, 12], [0, 12]), ([13, 13, 0, 1, 2, 3, 4, 5, 6, 7, 8, 9, 10, 11, 12, 13], [0, 13])])
def lb.B15 : List Nat := [0, 0, 0, 6, 14, 30, 0, 0, 192, 448, 960, 2046, 4094, 8191, 16383]
theorem lb.tab15 : rtab .any (opsOf Try.f3 15) = lb.T15 := by kernel_rfl
theorem lb.bits15 : waitsOk lb.T15.2 lb.B15 = true := by kernel_rfl

set_option maxHeartbeats 16000000 in
set_option maxRecDepth 100000 in
theorem law_both (A0 : Option Addr) (c0 : Nat) (l : List S53) (A1 : Option Addr) (c1 : Nat) (ps : List S38) (w : World) (hr0 : Kd.C k53 w A0 l.length l) (hc0 : l.length ≤ c0) (hr1 : Kd.C k38 w A1 ps.length ps) (hc1 : ps.length ≤ c1) (hW : WordsL l) (hps : ∀ p ∈ ps, W64 p.f0 ∧ W64 p.f1) :
    Calls Try.prog 3 #[.slice A0 l.length c0, .slice A1 ps.length c1] w fun e w' => e = .returned (.bool true) ∧ Below w.heap.size w w' := by
  have HR0 := Aside0.mk hr0
  have HC0 := Aside0.mk hc0
  have HR1 := Aside0.mk hr1
  have HC1 := Aside0.mk hc1
  have HW := Aside0.mk hW
  have HP := Aside0.mk hps
  clear hr0 hc0 hr1 hc1 hW hps
  have HC := Aside0.mk (Below.refl w.heap.size w)
  cases hsm : smallB l with
  | false =>
    have HSM : Aside0 (monticuleref18_Small.f 100 l = some false) := ⟨by rw [small_val, hsm]⟩
    go_enter Try.func3, Try.ntmps3
    go_wp2_with (first | (go_at_call 12; (with_reducible refine (awake20 _).mono ?_); rintro e w' ⟨rfl, hb⟩; have n0_ := Aside0.mk (below_step (by repeat (first | (with_reducible first | exact HC.out | apply below_alloc | apply pw_below_drewN | apply below_drew1) | exact HC.out)) hb); clear HC; have HC := n0_; clear n0_; clear hb) | (go_at_call 13; (with_reducible refine (monticuleref18_Small.calls 100 A0 c0 l _ _ (Kd.C_below HR0.out (by repeat (first | (with_reducible first | exact HC.out | apply below_alloc | apply pw_below_drewN | apply below_drew1) | exact HC.out))) HC0.out HSM.out).mono ?_); rintro e w' ⟨rfl, ⟨nd, rfl⟩⟩))
    go_ret
    exact ⟨rfl, HC.out⟩
  | true =>
    have HSM : Aside0 (monticuleref18_Small.f 100 l = some true) := ⟨by rw [small_val, hsm]⟩
    by_cases hlen : (ps.length : Int) > 20
    · have d1 : decide ((20 : Int) < (ps.length : Int)) = true := decide_eq_true hlen
      go_enter Try.func3, Try.ntmps3
      go_wp2_with (first | (go_at_call 12; (with_reducible refine (awake20 _).mono ?_); rintro e w' ⟨rfl, hb⟩; have n0_ := Aside0.mk (below_step (by repeat (first | (with_reducible first | exact HC.out | apply below_alloc | apply pw_below_drewN | apply below_drew1) | exact HC.out)) hb); clear HC; have HC := n0_; clear n0_; clear hb) | (go_at_call 13; (with_reducible refine (monticuleref18_Small.calls 100 A0 c0 l _ _ (Kd.C_below HR0.out (by repeat (first | (with_reducible first | exact HC.out | apply below_alloc | apply pw_below_drewN | apply below_drew1) | exact HC.out))) HC0.out HSM.out).mono ?_); rintro e w' ⟨rfl, ⟨nd, rfl⟩⟩))
      go_ret
      exact ⟨rfl, HC.out⟩
    · have d1 : decide ((20 : Int) < (ps.length : Int)) = false := decide_eq_false (by omega)
      have HS := Aside0.mk (smallB_L hsm)
      have HSB := Aside0.mk (smallB_in hsm)
      have hl5 : l.length ≤ 40 := HSB.out.1
      have hm : ps.length ≤ 20 := by omega
      have HO := Aside0.mk (show roomP 50 5000 by unfold roomP; decide)
      by_cases hz : ofErr l 50 5000 = 0
      · have HER := Aside0.mk hz
        have HM5 := Aside0.mk (show ps.length ≤ 100000 by omega)
        clear hz
        cases hrp : rightP l.length ps with
        | false =>
          have HRP := Aside0.mk hrp
          have HRT : Aside0 (monticuleref20_Right.f 3000 (l.length : Int) ps = some false) := ⟨by rw [right_val l.length (by omega) ps hm HP.out, hrp]⟩
          go_enter Try.func3, Try.ntmps3
          go_wp2_with (first | (go_at_call 12; (with_reducible refine (awake20 _).mono ?_); rintro e w' ⟨rfl, hb⟩; have n0_ := Aside0.mk (below_step (by repeat (first | (with_reducible first | exact HC.out | apply below_alloc | apply pw_below_drewN | apply below_drew1) | exact HC.out)) hb); clear HC; have HC := n0_; clear n0_; clear hb) | (go_at_call 13; (with_reducible refine (monticuleref18_Small.calls 100 A0 c0 l _ _ (Kd.C_below HR0.out (by repeat (first | (with_reducible first | exact HC.out | apply below_alloc | apply pw_below_drewN | apply below_drew1) | exact HC.out))) HC0.out HSM.out).mono ?_); rintro e w' ⟨rfl, ⟨nd, rfl⟩⟩) | (go_at_call 14; (with_reducible refine (of_room A0 c0 l 50 5000 _ (Kd.C_below HR0.out (by repeat (first | (with_reducible first | exact HC.out | apply below_alloc | apply pw_below_drewN | apply below_drew1) | exact HC.out))) HC0.out HS.out HW.out HO.out).mono ?_); rintro e w' ⟨hy, hn, hb⟩; obtain ⟨gh, rfl, hg⟩ := hy HER.out; have HH := Aside0.mk hg.reads; clear hg; have n0_ := Aside0.mk (below_step (by repeat (first | (with_reducible first | exact HC.out | apply below_alloc | apply pw_below_drewN | apply below_drew1) | exact HC.out)) hb); clear HC; have HC := n0_; clear n0_; clear hy hn hb) | (go_at_call 15; (with_reducible refine (become_both gh A1 c1 ps l 50 5000 _ _ (HH.out.below (by repeat (first | (with_reducible first | exact Below.refl _ _ | apply below_alloc | apply pw_below_drewN | apply below_drew1) | exact Below.refl _ _))) HS.out HW.out HO.out (Kd.C_below HR1.out (by repeat (first | (with_reducible first | exact HC.out | apply below_alloc | apply pw_below_drewN | apply below_drew1) | exact HC.out))) HC1.out HP.out HM5.out HER.out).mono ?_); rintro e w' ⟨hy, hn, hb⟩; obtain rfl := hn HRP.out; have n0_ := Aside0.mk (below_step (by repeat (first | (with_reducible first | exact HC.out | apply below_alloc | apply pw_below_drewN | apply below_drew1) | exact HC.out)) hb); have n1_ := Aside0.mk (HH.out.below (below_step (by repeat (first | (with_reducible first | exact Below.refl _ _ | apply below_alloc | apply pw_below_drewN | apply below_drew1) | exact Below.refl _ _)) hb)); clear HC HH; have HC := n0_; have HH := n1_; clear n0_ n1_ hy hn hb) | (go_at_call 16; (with_reducible refine (monticuleref20_Right.calls 3000 (l.length : Int) A1 c1 ps _ _ (Kd.C_below HR1.out (by repeat (first | (with_reducible first | exact HC.out | apply below_alloc | apply pw_below_drewN | apply below_drew1) | exact HC.out))) HC1.out HRT.out).mono ?_); rintro e w' ⟨rfl, hb⟩; have n0_ := Aside0.mk (below_step (by repeat (first | (with_reducible first | exact HC.out | apply below_alloc | apply pw_below_drewN | apply below_drew1) | exact HC.out)) hb); have n1_ := Aside0.mk (HH.out.below (below_step (by repeat (first | (with_reducible first | exact Below.refl _ _ | apply below_alloc | apply pw_below_drewN | apply below_drew1) | exact Below.refl _ _)) hb)); clear HC; clear HH; have HC := n0_; have HH := n1_; clear n0_ n1_; clear hb))
          go_ret
          exact ⟨rfl, HC.out⟩
        | true =>
          have HRP := Aside0.mk hrp
          have HRT : Aside0 (monticuleref20_Right.f 3000 (l.length : Int) ps = some true) := ⟨by rw [right_val l.length (by omega) ps hm HP.out, hrp]⟩
          have HPM := swapN_perm (rightP_in hrp HP.out)
          have HSL := Aside0.mk (SmallL.perm HPM HS.out)
          have HWL := Aside0.mk (WordsL.perm HPM HW.out)
          have HERL := Aside0.mk ((ofErr_perm HPM 50 5000).trans HER.out)
          have HLL := Aside0.mk (swapN_length l ps)
          have HRB := Aside0.mk (both_val l (by omega) ps (by omega) HP.out hrp)
          have HS2 := Aside0.mk (same_refl l 60 200 (by omega) (by omega) (fun x hx => (HSB.out.2 x hx).1) (by omega))
          have HS1 := Aside0.mk (same_refl (swapN l ps) 60 200 (by rw [HLL.out]; omega) (by omega) (fun x hx => (HSB.out.2 x (HPM.mem_iff.1 hx)).1) (by rw [HLL.out]; omega))
          have HAP := Aside0.mk (rightP_apart hrp HP.out)
          have HRO := Aside0.mk (rightP_other hrp)
          clear HPM hrp
          go_enter Try.func3, Try.ntmps3
          go_wp2_with (first | (go_at_call 12; (with_reducible refine (awake20 _).mono ?_); rintro e w' ⟨rfl, hb⟩; have n0_ := Aside0.mk (below_step (by repeat (first | (with_reducible first | exact HC.out | apply below_alloc | apply pw_below_drewN | apply below_drew1) | exact HC.out)) hb); clear HC; have HC := n0_; clear n0_; clear hb) | (go_at_call 13; (with_reducible refine (monticuleref18_Small.calls 100 A0 c0 l _ _ (Kd.C_below HR0.out (by repeat (first | (with_reducible first | exact HC.out | apply below_alloc | apply pw_below_drewN | apply below_drew1) | exact HC.out))) HC0.out HSM.out).mono ?_); rintro e w' ⟨rfl, ⟨nd, rfl⟩⟩) | (go_at_call 14; (with_reducible refine (of_room A0 c0 l 50 5000 _ (Kd.C_below HR0.out (by repeat (first | (with_reducible first | exact HC.out | apply below_alloc | apply pw_below_drewN | apply below_drew1) | exact HC.out))) HC0.out HS.out HW.out HO.out).mono ?_); rintro e w' ⟨hy, hn, hb⟩; obtain ⟨gh, rfl, hg⟩ := hy HER.out; have HH := Aside0.mk hg.reads; clear hg; have n0_ := Aside0.mk (below_step (by repeat (first | (with_reducible first | exact HC.out | apply below_alloc | apply pw_below_drewN | apply below_drew1) | exact HC.out)) hb); clear HC; have HC := n0_; clear n0_; clear hy hn hb) | (go_at_call 15; (with_reducible refine (become_both gh A1 c1 ps l 50 5000 _ _ (HH.out.below (by repeat (first | (with_reducible first | exact Below.refl _ _ | apply below_alloc | apply pw_below_drewN | apply below_drew1) | exact Below.refl _ _))) HS.out HW.out HO.out (Kd.C_below HR1.out (by repeat (first | (with_reducible first | exact HC.out | apply below_alloc | apply pw_below_drewN | apply below_drew1) | exact HC.out))) HC1.out HP.out HM5.out HER.out).mono ?_); rintro e w' ⟨hy, hn, hb⟩; obtain ⟨gn, rfl, hg⟩ := hy HRP.out; have HN := Aside0.mk hg.reads; clear hg; have n0_ := Aside0.mk (below_step (by repeat (first | (with_reducible first | exact HC.out | apply below_alloc | apply pw_below_drewN | apply below_drew1) | exact HC.out)) hb); have n1_ := Aside0.mk (HH.out.below (below_step (by repeat (first | (with_reducible first | exact Below.refl _ _ | apply below_alloc | apply pw_below_drewN | apply below_drew1) | exact Below.refl _ _)) hb)); clear HC HH; have HC := n0_; have HH := n1_; clear n0_ n1_ hy hn hb) | (go_at_call 16; (with_reducible refine (monticuleref20_Right.calls 3000 (l.length : Int) A1 c1 ps _ _ (Kd.C_below HR1.out (by repeat (first | (with_reducible first | exact HC.out | apply below_alloc | apply pw_below_drewN | apply below_drew1) | exact HC.out))) HC1.out HRT.out).mono ?_); rintro e w' ⟨rfl, hb⟩; have n0_ := Aside0.mk (below_step (by repeat (first | (with_reducible first | exact HC.out | apply below_alloc | apply pw_below_drewN | apply below_drew1) | exact HC.out)) hb); have n1_ := Aside0.mk (HH.out.below (below_step (by repeat (first | (with_reducible first | exact Below.refl _ _ | apply below_alloc | apply pw_below_drewN | apply below_drew1) | exact Below.refl _ _)) hb)); have n2_ := Aside0.mk (HN.out.below (below_step (by repeat (first | (with_reducible first | exact Below.refl _ _ | apply below_alloc | apply pw_below_drewN | apply below_drew1) | exact Below.refl _ _)) hb)); clear HC; clear HH; clear HN; have HC := n0_; have HH := n1_; have HN := n2_; clear n0_ n1_ n2_; clear hb) | (go_at_call 18; (with_reducible refine (heap_Objects gn (swapN l ps) 50 5000 _ _ (HN.out.below (by repeat (first | (with_reducible first | exact Below.refl _ _ | apply below_alloc | apply pw_below_drewN | apply below_drew1) | exact Below.refl _ _))) HSL.out).mono ?_); rintro e w' ⟨v, rfl, hS, hb⟩; obtain ⟨AN, cN, rfl, hlN, hCN⟩ := Kd.S_reads hS; have LN := Aside0.mk hlN; have NN := Aside0.mk hCN; have n0_ := Aside0.mk (below_step (by repeat (first | (with_reducible first | exact HC.out | apply below_alloc | apply pw_below_drewN | apply below_drew1) | exact HC.out)) hb); have n1_ := Aside0.mk (HH.out.below (below_step (by repeat (first | (with_reducible first | exact Below.refl _ _ | apply below_alloc | apply pw_below_drewN | apply below_drew1) | exact Below.refl _ _)) hb)); have n2_ := Aside0.mk (HN.out.below (below_step (by repeat (first | (with_reducible first | exact Below.refl _ _ | apply below_alloc | apply pw_below_drewN | apply below_drew1) | exact Below.refl _ _)) hb)); clear HC; clear HH; clear HN; have HC := n0_; have HH := n1_; have HN := n2_; clear n0_ n1_ n2_; clear hb; have HVN := NN; clear NN; clear hS hlN hCN) | (go_at_call 19; (with_reducible refine (monticuleref20_Both.calls 200 _ A0 c0 l A1 c1 ps (swapN l ps) _ (Kd.V_mk HC0.out (Kd.C_F heap53 (Kd.C_below HR0.out (by repeat (first | (with_reducible first | exact HC.out | apply below_alloc | apply pw_below_drewN | apply below_drew1) | exact HC.out))))) (Kd.C_below HR1.out (by repeat (first | (with_reducible first | exact HC.out | apply below_alloc | apply pw_below_drewN | apply below_drew1) | exact HC.out))) HC1.out HRB.out).mono ?_); rintro e w' ⟨v, rfl, hS, hb⟩; obtain ⟨AB, cB, rfl, hlB, hCB⟩ := Kd.N_reads hS; have LB := Aside0.mk hlB; have NB := Aside0.mk hCB; have n0_ := Aside0.mk (below_step (by repeat (first | (with_reducible first | exact HC.out | apply below_alloc | apply pw_below_drewN | apply below_drew1) | exact HC.out)) hb); have n1_ := Aside0.mk (HH.out.below (below_step (by repeat (first | (with_reducible first | exact Below.refl _ _ | apply below_alloc | apply pw_below_drewN | apply below_drew1) | exact Below.refl _ _)) hb)); have n2_ := Aside0.mk (HN.out.below (below_step (by repeat (first | (with_reducible first | exact Below.refl _ _ | apply below_alloc | apply pw_below_drewN | apply below_drew1) | exact Below.refl _ _)) hb)); have n3_ := Aside0.mk (Kd.C_below HVN.out (below_step (by repeat (first | (with_reducible first | exact Below.refl _ _ | apply below_alloc | apply pw_below_drewN | apply below_drew1) | exact Below.refl _ _)) hb)); clear HC; clear HH; clear HN; clear HVN; have HC := n0_; have HH := n1_; have HN := n2_; have HVN := n3_; clear n0_ n1_ n2_ n3_; clear hb; have HVB := NB; clear NB; clear hS hlB hCB) | (go_at_call 17; (with_reducible refine (monticuleref18_Same.calls 200 AN cN (swapN l ps) AB cB (swapN l ps) _ _ (Kd.C_below HVN.out (by repeat (first | (with_reducible first | exact Below.refl _ _ | apply below_alloc | apply pw_below_drewN | apply below_drew1) | exact Below.refl _ _))) (LN.out) (Kd.C_below HVB.out (by repeat (first | (with_reducible first | exact Below.refl _ _ | apply below_alloc | apply pw_below_drewN | apply below_drew1) | exact Below.refl _ _))) (LB.out) HS1.out).mono ?_); rintro e w' ⟨rfl, hb⟩; have n0_ := Aside0.mk (below_step (by repeat (first | (with_reducible first | exact HC.out | apply below_alloc | apply pw_below_drewN | apply below_drew1) | exact HC.out)) hb); have n1_ := Aside0.mk (HH.out.below (below_step (by repeat (first | (with_reducible first | exact Below.refl _ _ | apply below_alloc | apply pw_below_drewN | apply below_drew1) | exact Below.refl _ _)) hb)); have n2_ := Aside0.mk (HN.out.below (below_step (by repeat (first | (with_reducible first | exact Below.refl _ _ | apply below_alloc | apply pw_below_drewN | apply below_drew1) | exact Below.refl _ _)) hb)); clear HC; clear HH; clear HN; have HC := n0_; have HH := n1_; have HN := n2_; clear n0_ n1_ n2_; clear hb) | (go_at_call 18; (with_reducible refine (heap_Objects gh l 50 5000 _ _ (HH.out.below (by repeat (first | (with_reducible first | exact Below.refl _ _ | apply below_alloc | apply pw_below_drewN | apply below_drew1) | exact Below.refl _ _))) HS.out).mono ?_); rintro e w' ⟨v, rfl, hS, hb⟩; obtain ⟨AH, cH, rfl, hlH, hCH⟩ := Kd.S_reads hS; have LH := Aside0.mk hlH; have NH := Aside0.mk hCH; have n0_ := Aside0.mk (below_step (by repeat (first | (with_reducible first | exact HC.out | apply below_alloc | apply pw_below_drewN | apply below_drew1) | exact HC.out)) hb); have n1_ := Aside0.mk (HH.out.below (below_step (by repeat (first | (with_reducible first | exact Below.refl _ _ | apply below_alloc | apply pw_below_drewN | apply below_drew1) | exact Below.refl _ _)) hb)); have n2_ := Aside0.mk (HN.out.below (below_step (by repeat (first | (with_reducible first | exact Below.refl _ _ | apply below_alloc | apply pw_below_drewN | apply below_drew1) | exact Below.refl _ _)) hb)); clear HC; clear HH; clear HN; have HC := n0_; have HH := n1_; have HN := n2_; clear n0_ n1_ n2_; clear hb; have HVH := NH; clear NH; clear hS hlH hCH) | (go_at_call 17; (with_reducible refine (monticuleref18_Same.calls 200 AH cH l A0 c0 l _ _ (Kd.C_below HVH.out (by repeat (first | (with_reducible first | exact Below.refl _ _ | apply below_alloc | apply pw_below_drewN | apply below_drew1) | exact Below.refl _ _))) (LH.out) (Kd.C_below HR0.out (by repeat (first | (with_reducible first | exact HC.out | apply below_alloc | apply pw_below_drewN | apply below_drew1) | exact HC.out))) (HC0.out) HS2.out).mono ?_); rintro e w' ⟨rfl, hb⟩; have n0_ := Aside0.mk (below_step (by repeat (first | (with_reducible first | exact HC.out | apply below_alloc | apply pw_below_drewN | apply below_drew1) | exact HC.out)) hb); have n1_ := Aside0.mk (HH.out.below (below_step (by repeat (first | (with_reducible first | exact Below.refl _ _ | apply below_alloc | apply pw_below_drewN | apply below_drew1) | exact Below.refl _ _)) hb)); have n2_ := Aside0.mk (HN.out.below (below_step (by repeat (first | (with_reducible first | exact Below.refl _ _ | apply below_alloc | apply pw_below_drewN | apply below_drew1) | exact Below.refl _ _)) hb)); clear HC; clear HH; clear HN; have HC := n0_; have HH := n1_; have HN := n2_; clear n0_ n1_ n2_; clear hb))
          clear LN LB LH HVN HVB HVH
          obtain ⟨wl, hwl⟩ : ∃ wl : World, wl = w' := ⟨_, rfl⟩
          have HR1l := Aside0.mk (Kd.C_below HR1.out HC.out)
          rw [← hwl] at HH HN HC HR1l ⊢
          clear hwl
          go_loopg [9, 10] ps.length (fun kq v9 v10 w' => ∃ x : Int, v10 = .int .i64 x ∧ -1 ≤ x ∧ x < ps.length ∧ Aside0 ((kq : Int) = x + 1) ∧ Aside0 (Kd.R k38 38 w' wl.heap.size (fun _ => True) v9 (othersL ps x)) ∧ Aside0 (Below wl.heap.size wl w'))
          case atStart => exact ⟨(ps.length : Int) - 1, rfl, by omega, by omega, ⟨by omega⟩, ⟨by have e_ : othersL ps ((ps.length : Int) - 1) = [] := (by unfold othersL; rw [List.drop_of_length_le (by omega)]; rfl); rw [e_]; exact Kd.R_nil _ _ _ _ _⟩, ⟨Below.refl _ _⟩⟩
          case round =>
            obtain ⟨x, rfl, p0, p1, HK, HOT, HB⟩ := hrel
            by_cases hlt : 0 ≤ x
            · have c3b0 : decide (0 ≤ x) = true := decide_eq_true hlt
              obtain ⟨ad, e0, hw0, hw1⟩ := at_T38 HR1l.out x hlt p1
              cases e0
              have hx0 := (HB.out.cell (World.block_lt_of_cell? wl _ hw0)).trans hw0
              have hx1 := (HB.out.cell (World.block_lt_of_cell? wl _ hw1)).trans hw1
              have HNX := Aside0.mk (othersL_next ps x hlt p1)
              have p0' : (0 ≤ x) = True := eq_true hlt
              have p1' : (x < (ps.length : Int)) = True := eq_true p1
              go_wp2_with (fail)
              refine start_ (n := 15) (S := fun w' => w'.cell? (ad.add (x.toNat * 2)) = some (.int .u64 (rd_T38 ps x).f0) ∧ w'.cell? ⟨(ad.add (x.toNat * 2)).block, (ad.add (x.toNat * 2)).off + 1, none⟩ = some (.int .u64 (rd_T38 ps x).f1)) (ds := []) #[false, false, false, false, false, false, false, false, false, false, false, false, false, false, false] (by kernel_rfl) rfl rfl ⟨(HB.out.cell (World.block_lt_of_cell? wl _ hw0)).trans hw0, (HB.out.cell (World.block_lt_of_cell? wl _ hw1)).trans hw1⟩ (fun hHeld => ?_); refine with_tabW lb.tab15 lb.bits15 (fun HT_ HW_ => ?_)
              have n0_ := Aside0.mk (Kd.R_drew HOT.out)
              have n1_ := Aside0.mk (below_drew1 HB.out)
              clear HOT HB
              have HOT := n0_
              have HB := n1_
              clear n0_ n1_
              generalize wr.drew = w6 at HOT HB hHeld ⊢
              refine pure_ (i := 0) (N := some 83) (v := ?_) (a' := ?_) #[true, false, false, false, false, false, false, false, false, false, false, false, false, false, false] rfl rfl (any_of HT_.out (by kernel_rfl)) (fun _ _ _ h => h) (Or.inl ⟨by rfl, ?_⟩) ?_ ?_
              rotate_left
              · intro w'
                go_simp
                with_reducible rfl
              rotate_left
              · simp only [Act.put, List.setIfInBounds_toArray, List.set_cons_zero, List.set_cons_succ, i64_w, i32_w]
                rfl
              refine pure_ (i := 1) (N := some 84) (v := ?_) (a' := ?_) #[true, true, false, false, false, false, false, false, false, false, false, false, false, false, false] rfl rfl (any_of HT_.out (by kernel_rfl)) (fun _ _ _ h => h) (Or.inl ⟨by rfl, ?_⟩) ?_ ?_
              rotate_left
              · intro w'
                go_simp
                with_reducible rfl
              rotate_left
              · simp only [Act.put, List.setIfInBounds_toArray, List.set_cons_zero, List.set_cons_succ, i64_w, i32_w]
                rfl
              refine pure_ (i := 2) (N := some 85) (v := ?_) (a' := ?_) #[true, true, true, false, false, false, false, false, false, false, false, false, false, false, false] rfl rfl (any_of HT_.out (by kernel_rfl)) (fun _ _ _ h => h) (Or.inl ⟨by rfl, ?_⟩) ?_ ?_
              rotate_left
              · intro w'
                go_simp
                with_reducible rfl
              rotate_left
              · simp only [Act.put, List.setIfInBounds_toArray, List.set_cons_zero, List.set_cons_succ, i64_w, i32_w]
                rfl
              refine pure_ (i := 3) (N := some 86) (v := ?_) (a' := ?_) #[true, true, true, true, false, false, false, false, false, false, false, false, false, false, false] rfl rfl (any_of HT_.out (by kernel_rfl)) (fun _ _ _ h => h) (Or.inl ⟨by rfl, ?_⟩) ?_ ?_
              rotate_left
              · intro w'
                go_simp
                with_reducible rfl
              rotate_left
              · simp only [Act.put, List.setIfInBounds_toArray, List.set_cons_zero, List.set_cons_succ, i64_w, i32_w]
                rfl
              refine pure_ (i := 4) (N := some 87) (v := ?_) (a' := ?_) #[true, true, true, true, true, false, false, false, false, false, false, false, false, false, false] rfl rfl (any_of HT_.out (by kernel_rfl)) (fun _ _ _ h => h) (Or.inl ⟨by rfl, ?_⟩) ?_ ?_
              rotate_left
              · intro w'
                go_simp
                with_reducible rfl
              rotate_left
              · simp only [Act.put, List.setIfInBounds_toArray, List.set_cons_zero, List.set_cons_succ, i64_w, i32_w]
                rfl
              refine pure_ (i := 6) (N := some 89) (v := ?_) (a' := ?_) #[true, true, true, true, true, false, true, false, false, false, false, false, false, false, false] rfl rfl (any_of HT_.out (by kernel_rfl)) (fun _ _ _ h => h) (Or.inl ⟨by rfl, ?_⟩) ?_ ?_
              rotate_left
              · intro w'
                go_simp
                with_reducible rfl
              rotate_left
              · simp only [Act.put, List.setIfInBounds_toArray, List.set_cons_zero, List.set_cons_succ, i64_w, i32_w]
                rfl
              refine pure_ (i := 7) (N := some 90) (v := ?_) (a' := ?_) #[true, true, true, true, true, false, true, true, false, false, false, false, false, false, false] rfl rfl (any_of HT_.out (by kernel_rfl)) (fun _ _ _ h => h) (Or.inl ⟨by rfl, ?_⟩) ?_ ?_
              rotate_left
              · intro w'
                go_simp
                with_reducible rfl
              rotate_left
              · simp only [Act.put, List.setIfInBounds_toArray, List.set_cons_zero, List.set_cons_succ, i64_w, i32_w]
                rfl
              refine pure_ (i := 8) (N := some 91) (v := ?_) (a' := ?_) #[true, true, true, true, true, false, true, true, true, false, false, false, false, false, false] rfl rfl (any_of HT_.out (by kernel_rfl)) (fun _ _ _ h => h) (Or.inl ⟨by rfl, ?_⟩) ?_ ?_
              rotate_left
              · intro w'
                go_simp
                with_reducible rfl
              rotate_left
              · simp only [Act.put, List.setIfInBounds_toArray, List.set_cons_zero, List.set_cons_succ, i64_w, i32_w]
                rfl
              refine pure_ (i := 9) (N := some 92) (v := ?_) (a' := ?_) #[true, true, true, true, true, false, true, true, true, true, false, false, false, false, false] rfl rfl (any_of HT_.out (by kernel_rfl)) (fun _ _ _ h => h) (Or.inl ⟨by rfl, ?_⟩) ?_ ?_
              rotate_left
              · intro w'
                go_simp
                with_reducible rfl
              rotate_left
              · simp only [Act.put, List.setIfInBounds_toArray, List.set_cons_zero, List.set_cons_succ, i64_w, i32_w]
                rfl
              refine take_ (i := 5) (N := some 88) (v := ?_) (a' := ?_) #[true, true, true, true, true, true, true, true, true, true, false, false, false, false, false] rfl rfl (take_ofW HT_.out HW_.out (by kernel_rfl)) (fun _ _ _ h => h) (Or.inl ⟨by rfl, ?_⟩) hHeld ?_ ?_
              rotate_left
              · rintro w' ⟨s0, s1⟩
                go_simp
                with_reducible rfl
              rotate_left
              · simp only [Act.put, List.setIfInBounds_toArray, List.set_cons_zero, List.set_cons_succ, i64_w, i32_w]
                rfl
              refine take_ (i := 10) (N := some 93) (v := ?_) (a' := ?_) #[true, true, true, true, true, true, true, true, true, true, true, false, false, false, false] rfl rfl (take_ofW HT_.out HW_.out (by kernel_rfl)) (fun _ _ _ h => h) (Or.inl ⟨by rfl, ?_⟩) hHeld ?_ ?_
              rotate_left
              · rintro w' ⟨s0, s1⟩
                go_simp
                with_reducible rfl
              rotate_left
              · simp only [Act.put, List.setIfInBounds_toArray, List.set_cons_zero, List.set_cons_succ, i64_w, i32_w]
                rfl
              refine pure_ (i := 11) (N := some 94) (v := ?_) (a' := ?_) #[true, true, true, true, true, true, true, true, true, true, true, true, false, false, false] rfl rfl (any_of HT_.out (by kernel_rfl)) (fun _ _ _ h => h) (Or.inl ⟨by rfl, ?_⟩) ?_ ?_
              rotate_left
              · intro w'
                go_simp
                with_reducible rfl
              rotate_left
              · simp only [Act.put, List.setIfInBounds_toArray, List.set_cons_zero, List.set_cons_succ, i64_w, i32_w]
                rfl
              refine one_ (i := 12) (N := some 95) #[true, true, true, true, true, true, true, true, true, true, true, true, true, false, false] rfl rfl (one_of HT_.out (by kernel_rfl)) (by decide) (fun K hK => ?_)
              refine Kd.R_lit_step k38 _ 38 ?hg (N := 95) ?hd (xs := ([⟨(rd_T38 ps x).f1, (rd_T38 ps x).f0⟩] : List S38)) (inner := [.int .u64 (rd_T38 ps x).f1, .int .u64 (rd_T38 ps x).f0]) (ok := fun _ => True) (okp := fun _ => True) ?hr ?hp (fun _ hk => hk) trivial (Below.refl _ _) (Nat.le_refl _) (by simp) ?_; (case hd => rfl); (case hg => rfl); (case hr => first | (go_simp; done) | (go_simp; rfl)); (case hp => exact (Reps.snoc (Reps.none _ _) (k38_mkM _ _ _ (⟨(rd_T38 ps x).f1, (rd_T38 ps x).f0⟩ : S38)) rfl))
              intro v230 w7 ho8 hb hg_ hnew_
              clear hg_ hnew_
              have n0_ := Aside0.mk (Kd.R_elder' HOT.out (Kd.R_base ho8) hb)
              have n1_ := Aside0.mk (Kd.R_lower (Kd.R_new' ho8 (Kd.R_lt HOT.out)) HB.out.size)
              have n2_ := Aside0.mk (below_step HB.out hb)
              clear HOT HB
              have HOT := n0_
              have HO231 := n1_
              have HB := n2_
              clear n0_ n1_ n2_ hb ho8
              obtain ⟨Ao10, co10, eo10⟩ := Kd.R_slice HO231.out
              subst eo10
              refine hK.out _ _ ⟨(HB.out.cell (World.block_lt_of_cell? wl _ hw0)).trans hw0, (HB.out.cell (World.block_lt_of_cell? wl _ hw1)).trans hw1⟩ (fun hHeld => ?_)
              clear hK K
              refine norm_ (a' := ?_) ?_ ?_
              rotate_left
              · show Act.put _ (some 95) _ = _
                simp only [Act.put, List.setIfInBounds_toArray, List.set_cons_zero, List.set_cons_succ, i64_w, i32_w]
                rfl
              refine one_ (i := 13) (N := some 96) #[true, true, true, true, true, true, true, true, true, true, true, true, true, true, false] rfl rfl (one_of HT_.out (by kernel_rfl)) (by decide) (fun K hK => ?_)
              refine Kd.R_append_rows_step k38 (w0 := wl) wl.heap.size (by rfl) (.tmp 83) (.tmp 95) 23 38 (.agg #[.int .u64 0, .int .u64 0]) 16 rfl Try.underlying23 info38_ rfl (by decide) (by omega) u9 (othersL ps x) ([⟨(rd_T38 ps x).f1, (rd_T38 ps x).f0⟩] : List S38) _ _ _ (fun k_ => some k_ ≠ (.slice Ao10 1 co10 : Value).ownBlock) (fun _ => False) rfl rfl ?aO ?aR (fun _ _ h => h) (fun _ h => h.elim) ?aF ?aB ?aS ?aL ?_
              (case aR => exact (Kd.R_reads' HO231.out).2.2)
              (case aB => exact HB.out)
              (case aF => exact (fun k_ hk => Kd.fresh' (Kd.R_lt HO231.out) k_ hk))
              (case aO => exact Kd.R_mono HOT.out (fun _ hk => hk.2))
              (case aS => exact HB.out.size)
              (case aL => have := othersL_length ps x; simp only [List.length_cons, List.length_nil]; omega)
              intro v233 w9 ho hb hg hat
              rw [← HNX.out] at ho
              have n0_ := Aside0.mk hb
              have n1_ := Aside0.mk (Kd.R_mono (ok' := fun _ => True) ho (fun _ _ => trivial))
              clear HOT HB
              have HOT := n1_
              have HB := n0_
              clear n0_ n1_ ho hb hg hat HO231
              refine hK.out _ _ ⟨(HB.out.cell (World.block_lt_of_cell? wl _ hw0)).trans hw0, (HB.out.cell (World.block_lt_of_cell? wl _ hw1)).trans hw1⟩ (fun hHeld => ?_)
              clear hK K
              refine norm_ (a' := ?_) ?_ ?_
              rotate_left
              · show Act.put _ (some 96) _ = _
                simp only [Act.put, List.setIfInBounds_toArray, List.set_cons_zero, List.set_cons_succ, i64_w, i32_w]
                rfl
              refine pure_ (i := 14) (N := some 9) (v := ?_) (a' := ?_) #[true, true, true, true, true, true, true, true, true, true, true, true, true, true, true] rfl rfl (any_of HT_.out (by kernel_rfl)) (fun _ _ _ h => h) (Or.inl ⟨by rfl, ?_⟩) ?_ ?_
              rotate_left
              · intro w'
                go_simp
                with_reducible rfl
              rotate_left
              · simp only [Act.put, List.setIfInBounds_toArray, List.set_cons_zero, List.set_cons_succ, i64_w, i32_w]
                rfl
              refine done_ (done_of HT_.out (by kernel_rfl)) ?_
              go_wp2
              go_roundg (gk - 1)
              case measure => have := HK.out; omega
              case rel => exact ⟨x - 1, (by first | rfl | go_num), by omega, by omega, ⟨by have := HK.out; omega⟩, HOT, HB⟩
            · have c3b0 : decide (0 ≤ x) = false := decide_eq_false hlt
              obtain rfl : x = -1 := by omega
              obtain ⟨ot, hot⟩ : ∃ o_, o_ = othersL ps (-1) := ⟨_, rfl⟩
              rw [← hot] at HOT
              have HQ := Aside0.mk (hot.trans (show othersL ps (-1) = (ps.reverse.map flip38) from rfl))
              clear hot
              obtain ⟨AO, cO, eo, hlo, hCo⟩ := Kd.R_reads HOT.out
              subst eo
              have n0_ := Aside0.mk (below_step HC.out HB.out)
              have n1_ := Aside0.mk (HN.out.below HB.out)
              have HVO := Aside0.mk hCo
              have LO := Aside0.mk hlo
              clear HC HN HB hCo hlo HOT HH HR1l
              have HC := n0_
              have HN := n1_
              clear n0_ n1_
              have HRPL := Aside0.mk (show rightP (swapN l ps).length ps = true by rw [HLL.out]; exact HRP.out)
              have HTW := Aside0.mk (swapN_twice HAP.out)
              have HTB := Aside0.mk (show swapN (swapN l ps) ot = l by rw [HQ.out]; exact swapN_back HAP.out)
              have HRO2 := Aside0.mk (show rightP (swapN l ps).length ot = true by rw [HLL.out, HQ.out]; exact HRO.out)
              have HPO : Aside0 (∀ p ∈ ot, W64 p.f0 ∧ W64 p.f1) := ⟨fun p hp => by
                rw [HQ.out] at hp
                obtain ⟨q, hq, rfl⟩ := List.mem_map.1 hp
                have := HP.out q (List.mem_reverse.1 hq)
                exact ⟨this.2, this.1⟩⟩
              have HMO := Aside0.mk (show ot.length ≤ 100000 by rw [HQ.out, List.length_map, List.length_reverse]; omega)
              go_wp2_with (first | (go_at_call 15; (with_reducible refine (become_both gn A1 c1 ps (swapN l ps) 50 5000 _ _ (HN.out.below (by repeat (first | (with_reducible first | exact Below.refl _ _ | apply below_alloc | apply pw_below_drewN | apply below_drew1) | exact Below.refl _ _))) HSL.out HWL.out HO.out (Kd.C_below HR1.out (by repeat (first | (with_reducible first | exact HC.out | apply below_alloc | apply pw_below_drewN | apply below_drew1) | exact HC.out))) HC1.out HP.out HM5.out HERL.out).mono ?_); rintro e w' ⟨hy, hn, hb⟩; obtain ⟨gx, rfl, hg⟩ := hy HRPL.out; rw [HTW.out] at hg; have NHX := Aside0.mk hg.reads; have n0_ := Aside0.mk (below_step (by repeat (first | (with_reducible first | exact HC.out | apply below_alloc | apply pw_below_drewN | apply below_drew1) | exact HC.out)) hb); have n1_ := Aside0.mk (HN.out.below (below_step (by repeat (first | (with_reducible first | exact Below.refl _ _ | apply below_alloc | apply pw_below_drewN | apply below_drew1) | exact Below.refl _ _)) hb)); have n2_ := Aside0.mk (Kd.C_below HVO.out (below_step (by repeat (first | (with_reducible first | exact Below.refl _ _ | apply below_alloc | apply pw_below_drewN | apply below_drew1) | exact Below.refl _ _)) hb)); clear HC; clear HN; clear HVO; have HC := n0_; have HN := n1_; have HVO := n2_; clear n0_ n1_ n2_; clear hb; have HX := NHX; clear NHX hy hn hg) | (go_at_call 15; (with_reducible refine (become_both gn AO cO ot (swapN l ps) 50 5000 _ _ (HN.out.below (by repeat (first | (with_reducible first | exact Below.refl _ _ | apply below_alloc | apply pw_below_drewN | apply below_drew1) | exact Below.refl _ _))) HSL.out HWL.out HO.out (Kd.C_below HVO.out (by repeat (first | (with_reducible first | exact Below.refl _ _ | apply below_alloc | apply pw_below_drewN | apply below_drew1) | exact Below.refl _ _))) LO.out HPO.out HMO.out HERL.out).mono ?_); rintro e w' ⟨hy, hn, hb⟩; obtain ⟨gy, rfl, hg⟩ := hy HRO2.out; rw [HTB.out] at hg; have NHY := Aside0.mk hg.reads; have n0_ := Aside0.mk (below_step (by repeat (first | (with_reducible first | exact HC.out | apply below_alloc | apply pw_below_drewN | apply below_drew1) | exact HC.out)) hb); have n1_ := Aside0.mk (HX.out.below (below_step (by repeat (first | (with_reducible first | exact Below.refl _ _ | apply below_alloc | apply pw_below_drewN | apply below_drew1) | exact Below.refl _ _)) hb)); clear HC; clear HX; have HC := n0_; have HX := n1_; clear n0_ n1_; clear hb; have HY := NHY; clear NHY hy hn hg) | (go_at_call 18; (with_reducible refine (heap_Objects gx l 50 5000 _ _ (HX.out.below (by repeat (first | (with_reducible first | exact Below.refl _ _ | apply below_alloc | apply pw_below_drewN | apply below_drew1) | exact Below.refl _ _))) HS.out).mono ?_); rintro e w' ⟨v, rfl, hS, hb⟩; obtain ⟨AX, cX, rfl, hlX, hCX⟩ := Kd.S_reads hS; have LX := Aside0.mk hlX; have NX := Aside0.mk hCX; have n0_ := Aside0.mk (below_step (by repeat (first | (with_reducible first | exact HC.out | apply below_alloc | apply pw_below_drewN | apply below_drew1) | exact HC.out)) hb); have n1_ := Aside0.mk (HY.out.below (below_step (by repeat (first | (with_reducible first | exact Below.refl _ _ | apply below_alloc | apply pw_below_drewN | apply below_drew1) | exact Below.refl _ _)) hb)); clear HC; clear HY; have HC := n0_; have HY := n1_; clear n0_ n1_; clear hb; have HVX := NX; clear NX; clear hS hlX hCX) | (go_at_call 17; (with_reducible refine (monticuleref18_Same.calls 200 AX cX l A0 c0 l _ _ (Kd.C_below HVX.out (by repeat (first | (with_reducible first | exact Below.refl _ _ | apply below_alloc | apply pw_below_drewN | apply below_drew1) | exact Below.refl _ _))) (LX.out) (Kd.C_below HR0.out (by repeat (first | (with_reducible first | exact HC.out | apply below_alloc | apply pw_below_drewN | apply below_drew1) | exact HC.out))) (HC0.out) HS2.out).mono ?_); rintro e w' ⟨rfl, hb⟩; have n0_ := Aside0.mk (below_step (by repeat (first | (with_reducible first | exact HC.out | apply below_alloc | apply pw_below_drewN | apply below_drew1) | exact HC.out)) hb); have n1_ := Aside0.mk (HY.out.below (below_step (by repeat (first | (with_reducible first | exact Below.refl _ _ | apply below_alloc | apply pw_below_drewN | apply below_drew1) | exact Below.refl _ _)) hb)); clear HC; clear HY; have HC := n0_; have HY := n1_; clear n0_ n1_; clear hb) | (go_at_call 18; (with_reducible refine (heap_Objects gy l 50 5000 _ _ (HY.out.below (by repeat (first | (with_reducible first | exact Below.refl _ _ | apply below_alloc | apply pw_below_drewN | apply below_drew1) | exact Below.refl _ _))) HS.out).mono ?_); rintro e w' ⟨v, rfl, hS, hb⟩; obtain ⟨AY, cY, rfl, hlY, hCY⟩ := Kd.S_reads hS; have LY := Aside0.mk hlY; have NY := Aside0.mk hCY; have n0_ := Aside0.mk (below_step (by repeat (first | (with_reducible first | exact HC.out | apply below_alloc | apply pw_below_drewN | apply below_drew1) | exact HC.out)) hb); clear HC; have HC := n0_; clear n0_; clear hb; have HVY := NY; clear NY; clear hS hlY hCY) | (go_at_call 17; (with_reducible refine (monticuleref18_Same.calls 200 AY cY l A0 c0 l _ _ (Kd.C_below HVY.out (by repeat (first | (with_reducible first | exact Below.refl _ _ | apply below_alloc | apply pw_below_drewN | apply below_drew1) | exact Below.refl _ _))) (LY.out) (Kd.C_below HR0.out (by repeat (first | (with_reducible first | exact HC.out | apply below_alloc | apply pw_below_drewN | apply below_drew1) | exact HC.out))) (HC0.out) HS2.out).mono ?_); rintro e w' ⟨rfl, hb⟩; have n0_ := Aside0.mk (below_step (by repeat (first | (with_reducible first | exact HC.out | apply below_alloc | apply pw_below_drewN | apply below_drew1) | exact HC.out)) hb); clear HC; have HC := n0_; clear n0_; clear hb))
              go_ret
              exact ⟨rfl, (by repeat (first | (with_reducible first | exact HC.out | apply below_alloc | apply pw_below_drewN | apply below_drew1) | exact HC.out))⟩
      · have HER := Aside0.mk hz
        have z1 : (ofErr l 50 5000 == 0) = false := by simpa using hz
        have z2 : (ofErr l 50 5000 != 0) = true := by simpa using hz
        clear hz
        go_enter Try.func3, Try.ntmps3
        go_wp2_with (first | (go_at_call 12; (with_reducible refine (awake20 _).mono ?_); rintro e w' ⟨rfl, hb⟩; have n0_ := Aside0.mk (below_step (by repeat (first | (with_reducible first | exact HC.out | apply below_alloc | apply pw_below_drewN | apply below_drew1) | exact HC.out)) hb); clear HC; have HC := n0_; clear n0_; clear hb) | (go_at_call 13; (with_reducible refine (monticuleref18_Small.calls 100 A0 c0 l _ _ (Kd.C_below HR0.out (by repeat (first | (with_reducible first | exact HC.out | apply below_alloc | apply pw_below_drewN | apply below_drew1) | exact HC.out))) HC0.out HSM.out).mono ?_); rintro e w' ⟨rfl, ⟨nd, rfl⟩⟩) | (go_at_call 14; (with_reducible refine (of_room A0 c0 l 50 5000 _ (Kd.C_below HR0.out (by repeat (first | (with_reducible first | exact HC.out | apply below_alloc | apply pw_below_drewN | apply below_drew1) | exact HC.out))) HC0.out HS.out HW.out HO.out).mono ?_); rintro e w' ⟨hy, hn, hb⟩; obtain rfl := hn HER.out; have n0_ := Aside0.mk (below_step (by repeat (first | (with_reducible first | exact HC.out | apply below_alloc | apply pw_below_drewN | apply below_drew1) | exact HC.out)) hb); clear HC; have HC := n0_; clear n0_; clear hy hn hb))
        go_ret
        exact ⟨rfl, HC.out⟩
end Go.Proofs.Ytiokegmpooildaa.Hp
