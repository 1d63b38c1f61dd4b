/- BecomeOne, walked: it holds on every list of objects and of pairs. -/
import Derived.Test.YtiokegmpooildaaPy
import Derived.Test.YtiokegmpooildaaAw
import Derived.Test.YtiokegmpooildaaNl
namespace Go.Proofs.Ytiokegmpooildaa.Hp
open Go.RowKit Go.Proofs.YtiokegmpooildaaW.PrintWords Go.Proofs.YtiokegmpooildaaW.PrintLast Go.Proofs.YtiokegmpooildaaW.PrintMore Go.Proofs.Ytiokegmpooildaa.PAll
set_option linter.unusedVariables false
set_option linter.unusedSimpArgs false
theorem heap53b : Kd.Heap k53 := Kd.heap_iso _ (Kd.heap_pair (Kd.heap_int _) (Kd.heap_pair (Kd.heap_slice _ (Kd.heap_int _)) (Kd.heap_slice _ (Kd.heap_int _))))
theorem ne_beq {a b : Int} (h : a ≠ b) : (a == b) = false := by simpa using h

set_option maxHeartbeats 16000000 in
set_option maxRecDepth 100000 in
theorem law_one (A0 : Option Addr) (c0 : Nat) (l : List S53) (A1 : Option Addr) (c1 : Nat) (ps : List S38) (w : World) (hr0 : Kd.C k53 w A0 l.length l) (hc0 : l.length ≤ c0) (hr1 : Kd.C k38 w A1 ps.length ps) (hc1 : ps.length ≤ c1) (hW : WordsL l) (hps : ∀ p ∈ ps, W64 p.f0 ∧ W64 p.f1) :
    Calls Try.prog 5 #[.slice A0 l.length c0, .slice A1 ps.length c1] w fun e w' => e = .returned (.bool true) ∧ Below w.heap.size w w' := by
  have HR0 := Aside0.mk hr0
  have HC0 := Aside0.mk hc0
  have HR1 := Aside0.mk hr1
  have HC1 := Aside0.mk hc1
  have HW := Aside0.mk hW
  have HP := Aside0.mk hps
  clear hr0 hc0 hr1 hc1 hW hps
  have HC := Aside0.mk (Below.refl w.heap.size w)
  cases hsm : smallB l with
  | false =>
    have HSM : Aside0 (monticuleref18_Small.f 100 l = some false) := ⟨by rw [small_val, hsm]⟩
    go_enter Try.func5, Try.ntmps5
    go_wp2_with (first | (go_at_call 12; (with_reducible refine (awake20 _).mono ?_); rintro e w' ⟨rfl, hb⟩; have n0_ := Aside0.mk (below_step (by repeat (first | (with_reducible first | exact HC.out | apply below_alloc | apply pw_below_drewN | apply below_drew1) | exact HC.out)) hb); clear HC; have HC := n0_; clear n0_; clear hb) | (go_at_call 13; (with_reducible refine (monticuleref18_Small.calls 100 A0 c0 l _ _ (Kd.C_below HR0.out (by repeat (first | (with_reducible first | exact HC.out | apply below_alloc | apply pw_below_drewN | apply below_drew1) | exact HC.out))) HC0.out HSM.out).mono ?_); rintro e w' ⟨rfl, ⟨nd, rfl⟩⟩))
    go_ret
    exact ⟨rfl, HC.out⟩
  | true =>
    have HSM : Aside0 (monticuleref18_Small.f 100 l = some true) := ⟨by rw [small_val, hsm]⟩
    by_cases hlen : (ps.length : Int) > 20
    · have d1 : decide ((20 : Int) < (ps.length : Int)) = true := decide_eq_true hlen
      go_enter Try.func5, Try.ntmps5
      go_wp2_with (first | (go_at_call 12; (with_reducible refine (awake20 _).mono ?_); rintro e w' ⟨rfl, hb⟩; have n0_ := Aside0.mk (below_step (by repeat (first | (with_reducible first | exact HC.out | apply below_alloc | apply pw_below_drewN | apply below_drew1) | exact HC.out)) hb); clear HC; have HC := n0_; clear n0_; clear hb) | (go_at_call 13; (with_reducible refine (monticuleref18_Small.calls 100 A0 c0 l _ _ (Kd.C_below HR0.out (by repeat (first | (with_reducible first | exact HC.out | apply below_alloc | apply pw_below_drewN | apply below_drew1) | exact HC.out))) HC0.out HSM.out).mono ?_); rintro e w' ⟨rfl, ⟨nd, rfl⟩⟩))
      go_ret
      exact ⟨rfl, HC.out⟩
    · have d1 : decide ((20 : Int) < (ps.length : Int)) = false := decide_eq_false (by omega)
      have HS := Aside0.mk (smallB_L hsm)
      have HSB := Aside0.mk (smallB_in hsm)
      have hl5 : l.length ≤ 40 := HSB.out.1
      have hm : ps.length ≤ 20 := by omega
      have HO := Aside0.mk (show roomP 50 5000 by unfold roomP; decide)
      by_cases hz : ofErr l 50 5000 = 0
      · have HER := Aside0.mk hz
        have HM5 := Aside0.mk (show ps.length ≤ 100000 by omega)
        have HE1 := Aside0.mk (show rightP l.length ps = true → ofErr (turnA (mapP ps) l l.length) 50 5000 = 0 from fun h => turn_ofErr h hz)
        clear hz
        cases hrp : rightP l.length ps with
        | false =>
          have HRP := Aside0.mk hrp
          have HRT : Aside0 (monticuleref20_Right.f 3000 (l.length : Int) ps = some false) := ⟨by rw [right_val l.length (by omega) ps hm HP.out, hrp]⟩
          go_enter Try.func5, Try.ntmps5
          go_wp2_with (first | (go_at_call 12; (with_reducible refine (awake20 _).mono ?_); rintro e w' ⟨rfl, hb⟩; have n0_ := Aside0.mk (below_step (by repeat (first | (with_reducible first | exact HC.out | apply below_alloc | apply pw_below_drewN | apply below_drew1) | exact HC.out)) hb); clear HC; have HC := n0_; clear n0_; clear hb) | (go_at_call 13; (with_reducible refine (monticuleref18_Small.calls 100 A0 c0 l _ _ (Kd.C_below HR0.out (by repeat (first | (with_reducible first | exact HC.out | apply below_alloc | apply pw_below_drewN | apply below_drew1) | exact HC.out))) HC0.out HSM.out).mono ?_); rintro e w' ⟨rfl, ⟨nd, rfl⟩⟩) | (go_at_call 14; (with_reducible refine (of_room A0 c0 l 50 5000 _ (Kd.C_below HR0.out (by repeat (first | (with_reducible first | exact HC.out | apply below_alloc | apply pw_below_drewN | apply below_drew1) | exact HC.out))) HC0.out HS.out HW.out HO.out).mono ?_); rintro e w' ⟨hy, hn, hb⟩; obtain ⟨gh, rfl, hg⟩ := hy HER.out; have HH := Aside0.mk hg.reads; clear hg; have n0_ := Aside0.mk (below_step (by repeat (first | (with_reducible first | exact HC.out | apply below_alloc | apply pw_below_drewN | apply below_drew1) | exact HC.out)) hb); clear HC; have HC := n0_; clear n0_; clear hy hn hb) | (go_at_call 26; (with_reducible refine (become_one gh A1 c1 ps l 50 5000 _ _ (HH.out.below (by repeat (first | (with_reducible first | exact Below.refl _ _ | apply below_alloc | apply pw_below_drewN | apply below_drew1) | exact Below.refl _ _))) HS.out HW.out HO.out (Kd.C_below HR1.out (by repeat (first | (with_reducible first | exact HC.out | apply below_alloc | apply pw_below_drewN | apply below_drew1) | exact HC.out))) HC1.out HP.out HM5.out HE1.out).mono ?_); rintro e w' ⟨hy, hn, hb⟩; obtain rfl := hn HRP.out; have n0_ := Aside0.mk (below_step (by repeat (first | (with_reducible first | exact HC.out | apply below_alloc | apply pw_below_drewN | apply below_drew1) | exact HC.out)) hb); have n1_ := Aside0.mk (HH.out.below (below_step (by repeat (first | (with_reducible first | exact Below.refl _ _ | apply below_alloc | apply pw_below_drewN | apply below_drew1) | exact Below.refl _ _)) hb)); clear HC HH; have HC := n0_; have HH := n1_; clear n0_ n1_ hy hn hb) | (go_at_call 26; (with_reducible refine (one_nil A1 c1 ps _ (Kd.C_below HR1.out (by repeat (first | (with_reducible first | exact HC.out | apply below_alloc | apply pw_below_drewN | apply below_drew1) | exact HC.out))) HP.out HM5.out).mono ?_); rintro e w' ⟨rfl, hb⟩; have n0_ := Aside0.mk (below_step (by repeat (first | (with_reducible first | exact HC.out | apply below_alloc | apply pw_below_drewN | apply below_drew1) | exact HC.out)) hb); have n1_ := Aside0.mk (HH.out.below (below_step (by repeat (first | (with_reducible first | exact Below.refl _ _ | apply below_alloc | apply pw_below_drewN | apply below_drew1) | exact Below.refl _ _)) hb)); clear HC; clear HH; have HC := n0_; have HH := n1_; clear n0_ n1_; clear hb) | (go_at_call 16; (with_reducible refine (monticuleref20_Right.calls 3000 (l.length : Int) A1 c1 ps _ _ (Kd.C_below HR1.out (by repeat (first | (with_reducible first | exact HC.out | apply below_alloc | apply pw_below_drewN | apply below_drew1) | exact HC.out))) HC1.out HRT.out).mono ?_); rintro e w' ⟨rfl, hb⟩; have n0_ := Aside0.mk (below_step (by repeat (first | (with_reducible first | exact HC.out | apply below_alloc | apply pw_below_drewN | apply below_drew1) | exact HC.out)) hb); have n1_ := Aside0.mk (HH.out.below (below_step (by repeat (first | (with_reducible first | exact Below.refl _ _ | apply below_alloc | apply pw_below_drewN | apply below_drew1) | exact Below.refl _ _)) hb)); clear HC; clear HH; have HC := n0_; have HH := n1_; clear n0_ n1_; clear hb))
          go_ret
          exact ⟨rfl, HC.out⟩
        | true =>
          have HRP := Aside0.mk hrp
          have HRT : Aside0 (monticuleref20_Right.f 3000 (l.length : Int) ps = some true) := ⟨by rw [right_val l.length (by omega) ps hm HP.out, hrp]⟩
          obtain ⟨L, hL⟩ : ∃ L, L = (turnA (mapP ps) l l.length) := ⟨_, rfl⟩
          have hLT := Aside0.mk hL
          have HSL := Aside0.mk (show SmallL L by rw [hL]; exact HS.out.turned)
          have HLL := Aside0.mk (show L.length = l.length by rw [hL]; exact turnA_length _ _ _)
          have HRB := Aside0.mk (show monticuleref20_One.f 3000 l ps = some L by rw [hL]; exact refone_val hrp (by omega) l HSB.out.1 HSB.out.2)
          have HS2 := Aside0.mk (same_refl l 60 200 (by omega) (by omega) (fun x hx => (HSB.out.2 x hx).1) (by omega))
          have HLS : ∀ x ∈ L, x.f1.length ≤ 60 := by
            intro x hx
            rw [hL, turnA_full] at hx
            obtain ⟨y, hy, rfl⟩ := List.mem_map.1 hx
            have := (HSB.out.2 y hy).1
            unfold turnO
            rw [List.length_map]
            exact this
          have HS1 := Aside0.mk (same_refl L 60 200 (by rw [HLL.out]; omega) (by omega) HLS (by rw [HLL.out]; omega))
          have HNO := Aside0.mk (show ∀ x ∈ L, ∀ p ∈ ps, x.f0 ≠ p.f0 ∧ ∀ a ∈ x.f1, a ≠ p.f0 by rw [hL]; exact fun x hx p hp => turned_no hrp hx hp)
          have HLE : L.length ≤ 40 := by rw [HLL.out]; exact HSB.out.1
          have HLQ := Aside0.mk HLS
          clear hrp hL HLS
          go_enter Try.func5, Try.ntmps5
          go_wp2_with (first | (go_at_call 12; (with_reducible refine (awake20 _).mono ?_); rintro e w' ⟨rfl, hb⟩; have n0_ := Aside0.mk (below_step (by repeat (first | (with_reducible first | exact HC.out | apply below_alloc | apply pw_below_drewN | apply below_drew1) | exact HC.out)) hb); clear HC; have HC := n0_; clear n0_; clear hb) | (go_at_call 13; (with_reducible refine (monticuleref18_Small.calls 100 A0 c0 l _ _ (Kd.C_below HR0.out (by repeat (first | (with_reducible first | exact HC.out | apply below_alloc | apply pw_below_drewN | apply below_drew1) | exact HC.out))) HC0.out HSM.out).mono ?_); rintro e w' ⟨rfl, ⟨nd, rfl⟩⟩) | (go_at_call 14; (with_reducible refine (of_room A0 c0 l 50 5000 _ (Kd.C_below HR0.out (by repeat (first | (with_reducible first | exact HC.out | apply below_alloc | apply pw_below_drewN | apply below_drew1) | exact HC.out))) HC0.out HS.out HW.out HO.out).mono ?_); rintro e w' ⟨hy, hn, hb⟩; obtain ⟨gh, rfl, hg⟩ := hy HER.out; have HH := Aside0.mk hg.reads; clear hg; have n0_ := Aside0.mk (below_step (by repeat (first | (with_reducible first | exact HC.out | apply below_alloc | apply pw_below_drewN | apply below_drew1) | exact HC.out)) hb); clear HC; have HC := n0_; clear n0_; clear hy hn hb) | (go_at_call 26; (with_reducible refine (become_one gh A1 c1 ps l 50 5000 _ _ (HH.out.below (by repeat (first | (with_reducible first | exact Below.refl _ _ | apply below_alloc | apply pw_below_drewN | apply below_drew1) | exact Below.refl _ _))) HS.out HW.out HO.out (Kd.C_below HR1.out (by repeat (first | (with_reducible first | exact HC.out | apply below_alloc | apply pw_below_drewN | apply below_drew1) | exact HC.out))) HC1.out HP.out HM5.out HE1.out).mono ?_); rintro e w' ⟨hy, hn, hb⟩; obtain ⟨gn, rfl, hg⟩ := hy HRP.out; rw [← hLT.out] at hg; have HN := Aside0.mk hg.reads; clear hg; have n0_ := Aside0.mk (below_step (by repeat (first | (with_reducible first | exact HC.out | apply below_alloc | apply pw_below_drewN | apply below_drew1) | exact HC.out)) hb); have n1_ := Aside0.mk (HH.out.below (below_step (by repeat (first | (with_reducible first | exact Below.refl _ _ | apply below_alloc | apply pw_below_drewN | apply below_drew1) | exact Below.refl _ _)) hb)); clear HC HH; have HC := n0_; have HH := n1_; clear n0_ n1_ hy hn hb) | (go_at_call 26; (with_reducible refine (one_nil A1 c1 ps _ (Kd.C_below HR1.out (by repeat (first | (with_reducible first | exact HC.out | apply below_alloc | apply pw_below_drewN | apply below_drew1) | exact HC.out))) HP.out HM5.out).mono ?_); rintro e w' ⟨rfl, hb⟩; have n0_ := Aside0.mk (below_step (by repeat (first | (with_reducible first | exact HC.out | apply below_alloc | apply pw_below_drewN | apply below_drew1) | exact HC.out)) hb); have n1_ := Aside0.mk (HH.out.below (below_step (by repeat (first | (with_reducible first | exact Below.refl _ _ | apply below_alloc | apply pw_below_drewN | apply below_drew1) | exact Below.refl _ _)) hb)); have n2_ := Aside0.mk (HN.out.below (below_step (by repeat (first | (with_reducible first | exact Below.refl _ _ | apply below_alloc | apply pw_below_drewN | apply below_drew1) | exact Below.refl _ _)) hb)); clear HC; clear HH; clear HN; have HC := n0_; have HH := n1_; have HN := n2_; clear n0_ n1_ n2_; clear hb) | (go_at_call 16; (with_reducible refine (monticuleref20_Right.calls 3000 (l.length : Int) A1 c1 ps _ _ (Kd.C_below HR1.out (by repeat (first | (with_reducible first | exact HC.out | apply below_alloc | apply pw_below_drewN | apply below_drew1) | exact HC.out))) HC1.out HRT.out).mono ?_); rintro e w' ⟨rfl, hb⟩; have n0_ := Aside0.mk (below_step (by repeat (first | (with_reducible first | exact HC.out | apply below_alloc | apply pw_below_drewN | apply below_drew1) | exact HC.out)) hb); have n1_ := Aside0.mk (HH.out.below (below_step (by repeat (first | (with_reducible first | exact Below.refl _ _ | apply below_alloc | apply pw_below_drewN | apply below_drew1) | exact Below.refl _ _)) hb)); have n2_ := Aside0.mk (HN.out.below (below_step (by repeat (first | (with_reducible first | exact Below.refl _ _ | apply below_alloc | apply pw_below_drewN | apply below_drew1) | exact Below.refl _ _)) hb)); clear HC; clear HH; clear HN; have HC := n0_; have HH := n1_; have HN := n2_; clear n0_ n1_ n2_; clear hb) | (have hD_ := HD.out; clear hD_; go_at_call 18; (with_reducible refine (heap_Objects gn L 50 5000 _ _ (HN.out.below (by repeat (first | (with_reducible first | exact Below.refl _ _ | apply below_alloc | apply pw_below_drewN | apply below_drew1) | exact Below.refl _ _))) HSL.out).mono ?_); rintro e w' ⟨v, rfl, hS, hb⟩; obtain ⟨AM, cM, rfl, hlM, hCM⟩ := Kd.S_reads hS; have LM := Aside0.mk hlM; have NM := Aside0.mk hCM; have n0_ := Aside0.mk (below_step (by repeat (first | (with_reducible first | exact HC.out | apply below_alloc | apply pw_below_drewN | apply below_drew1) | exact HC.out)) hb); have n1_ := Aside0.mk (HN.out.below (below_step (by repeat (first | (with_reducible first | exact Below.refl _ _ | apply below_alloc | apply pw_below_drewN | apply below_drew1) | exact Below.refl _ _)) hb)); clear HC; clear HN; have HC := n0_; have HN := n1_; clear n0_ n1_; clear hb; have HVM := NM; clear NM; clear hS hlM hCM) | (go_at_call 18; (with_reducible refine (heap_Objects gn L 50 5000 _ _ (HN.out.below (by repeat (first | (with_reducible first | exact Below.refl _ _ | apply below_alloc | apply pw_below_drewN | apply below_drew1) | exact Below.refl _ _))) HSL.out).mono ?_); rintro e w' ⟨v, rfl, hS, hb⟩; obtain ⟨AN, cN, rfl, hlN, hCN⟩ := Kd.S_reads hS; have LN := Aside0.mk hlN; have NN := Aside0.mk hCN; have n0_ := Aside0.mk (below_step (by repeat (first | (with_reducible first | exact HC.out | apply below_alloc | apply pw_below_drewN | apply below_drew1) | exact HC.out)) hb); have n1_ := Aside0.mk (HH.out.below (below_step (by repeat (first | (with_reducible first | exact Below.refl _ _ | apply below_alloc | apply pw_below_drewN | apply below_drew1) | exact Below.refl _ _)) hb)); have n2_ := Aside0.mk (HN.out.below (below_step (by repeat (first | (with_reducible first | exact Below.refl _ _ | apply below_alloc | apply pw_below_drewN | apply below_drew1) | exact Below.refl _ _)) hb)); clear HC; clear HH; clear HN; have HC := n0_; have HH := n1_; have HN := n2_; clear n0_ n1_ n2_; clear hb; have HVN := NN; clear NN; clear hS hlN hCN) | (go_at_call 27; (with_reducible refine (monticuleref20_One.calls 3000 A0 c0 l A1 c1 ps L _ (Kd.C_below HR0.out (by repeat (first | (with_reducible first | exact HC.out | apply below_alloc | apply pw_below_drewN | apply below_drew1) | exact HC.out))) HC0.out (Kd.C_below HR1.out (by repeat (first | (with_reducible first | exact HC.out | apply below_alloc | apply pw_below_drewN | apply below_drew1) | exact HC.out))) HC1.out HRB.out).mono ?_); rintro e w' ⟨v, rfl, hS, hb⟩; obtain ⟨AB, cB, rfl, hlB, hCB⟩ := Kd.S_reads hS; have LB := Aside0.mk hlB; have NB := Aside0.mk hCB; have n0_ := Aside0.mk (below_step (by repeat (first | (with_reducible first | exact HC.out | apply below_alloc | apply pw_below_drewN | apply below_drew1) | exact HC.out)) hb); have n1_ := Aside0.mk (HH.out.below (below_step (by repeat (first | (with_reducible first | exact Below.refl _ _ | apply below_alloc | apply pw_below_drewN | apply below_drew1) | exact Below.refl _ _)) hb)); have n2_ := Aside0.mk (HN.out.below (below_step (by repeat (first | (with_reducible first | exact Below.refl _ _ | apply below_alloc | apply pw_below_drewN | apply below_drew1) | exact Below.refl _ _)) hb)); have n3_ := Aside0.mk (Kd.C_below HVN.out (below_step (by repeat (first | (with_reducible first | exact Below.refl _ _ | apply below_alloc | apply pw_below_drewN | apply below_drew1) | exact Below.refl _ _)) hb)); clear HC; clear HH; clear HN; clear HVN; have HC := n0_; have HH := n1_; have HN := n2_; have HVN := n3_; clear n0_ n1_ n2_ n3_; clear hb; have HVB := NB; clear NB; clear hS hlB hCB) | (go_at_call 17; (with_reducible refine (monticuleref18_Same.calls 200 AN cN L AB cB L _ _ (Kd.C_below HVN.out (by repeat (first | (with_reducible first | exact Below.refl _ _ | apply below_alloc | apply pw_below_drewN | apply below_drew1) | exact Below.refl _ _))) (LN.out) (Kd.C_below HVB.out (by repeat (first | (with_reducible first | exact Below.refl _ _ | apply below_alloc | apply pw_below_drewN | apply below_drew1) | exact Below.refl _ _))) (LB.out) HS1.out).mono ?_); rintro e w' ⟨rfl, hb⟩; have n0_ := Aside0.mk (below_step (by repeat (first | (with_reducible first | exact HC.out | apply below_alloc | apply pw_below_drewN | apply below_drew1) | exact HC.out)) hb); have n1_ := Aside0.mk (HH.out.below (below_step (by repeat (first | (with_reducible first | exact Below.refl _ _ | apply below_alloc | apply pw_below_drewN | apply below_drew1) | exact Below.refl _ _)) hb)); have n2_ := Aside0.mk (HN.out.below (below_step (by repeat (first | (with_reducible first | exact Below.refl _ _ | apply below_alloc | apply pw_below_drewN | apply below_drew1) | exact Below.refl _ _)) hb)); clear HC; clear HH; clear HN; have HC := n0_; have HH := n1_; have HN := n2_; clear n0_ n1_ n2_; clear hb) | (go_at_call 18; (with_reducible refine (heap_Objects gh l 50 5000 _ _ (HH.out.below (by repeat (first | (with_reducible first | exact Below.refl _ _ | apply below_alloc | apply pw_below_drewN | apply below_drew1) | exact Below.refl _ _))) HS.out).mono ?_); rintro e w' ⟨v, rfl, hS, hb⟩; obtain ⟨AH, cH, rfl, hlH, hCH⟩ := Kd.S_reads hS; have LH := Aside0.mk hlH; have NH := Aside0.mk hCH; have n0_ := Aside0.mk (below_step (by repeat (first | (with_reducible first | exact HC.out | apply below_alloc | apply pw_below_drewN | apply below_drew1) | exact HC.out)) hb); have n1_ := Aside0.mk (HH.out.below (below_step (by repeat (first | (with_reducible first | exact Below.refl _ _ | apply below_alloc | apply pw_below_drewN | apply below_drew1) | exact Below.refl _ _)) hb)); have n2_ := Aside0.mk (HN.out.below (below_step (by repeat (first | (with_reducible first | exact Below.refl _ _ | apply below_alloc | apply pw_below_drewN | apply below_drew1) | exact Below.refl _ _)) hb)); clear HC; clear HH; clear HN; have HC := n0_; have HH := n1_; have HN := n2_; clear n0_ n1_ n2_; clear hb; have HVH := NH; clear NH; clear hS hlH hCH) | (go_at_call 17; (with_reducible refine (monticuleref18_Same.calls 200 AH cH l A0 c0 l _ _ (Kd.C_below HVH.out (by repeat (first | (with_reducible first | exact Below.refl _ _ | apply below_alloc | apply pw_below_drewN | apply below_drew1) | exact Below.refl _ _))) (LH.out) (Kd.C_below HR0.out (by repeat (first | (with_reducible first | exact HC.out | apply below_alloc | apply pw_below_drewN | apply below_drew1) | exact HC.out))) (HC0.out) HS2.out).mono ?_); rintro e w' ⟨rfl, hb⟩; have n0_ := Aside0.mk (below_step (by repeat (first | (with_reducible first | exact HC.out | apply below_alloc | apply pw_below_drewN | apply below_drew1) | exact HC.out)) hb); have n1_ := Aside0.mk (HH.out.below (below_step (by repeat (first | (with_reducible first | exact Below.refl _ _ | apply below_alloc | apply pw_below_drewN | apply below_drew1) | exact Below.refl _ _)) hb)); have n2_ := Aside0.mk (HN.out.below (below_step (by repeat (first | (with_reducible first | exact Below.refl _ _ | apply below_alloc | apply pw_below_drewN | apply below_drew1) | exact Below.refl _ _)) hb)); clear HC; clear HH; clear HN; have HC := n0_; have HH := n1_; have HN := n2_; clear n0_ n1_ n2_; clear hb; have HD := Aside0.mk trivial; clear LN LB LH HVN HVB HVH HH))

          obtain ⟨wl, hwl⟩ : ∃ wl : World, wl = w' := ⟨_, rfl⟩
          have HR1l := Aside0.mk (Kd.C_below HR1.out HC.out)
          rw [← hwl] at HN HC HR1l HVM ⊢
          clear hwl
          go_loopg [12] L.length (fun kq v12 w' => ∃ x : Int, v12 = .int .i64 x ∧ 0 ≤ x ∧ x ≤ L.length ∧ Aside0 ((kq : Int) + x = L.length) ∧ Aside0 (Below wl.heap.size wl w'))
          case atStart => exact ⟨0, rfl, by omega, by omega, ⟨by simp⟩, ⟨Below.refl _ _⟩⟩
          case round =>
            obtain ⟨x, rfl, p0, p1, HK, HB⟩ := hrel
            by_cases hlt : x < (L.length : Int)
            · have c3b0 : decide (x < (L.length : Int)) = true := decide_eq_true hlt
              obtain ⟨ad, A5, c5, A6, c6, e0, hx0, hx1, hx2, hl1, hi1, hl2, hi2⟩ := at_T53 HVM.out x p0 hlt
              cases e0
              have HX0 := Aside0.mk hx0
              have HX1 := Aside0.mk hx1
              have HI1 := Aside0.mk hi1
              have HNX := Aside0.mk (HNO.out _ (rd53_mem (l := L) p0 hlt))
              have HF1 := Aside0.mk (HLQ.out _ (rd53_mem (l := L) p0 hlt))
              have p0' : (0 ≤ x) = True := eq_true p0
              have p1' : (x < (L.length : Int)) = True := eq_true hlt
              clear hx0 hx1 hx2 hl1 hi1 hl2 hi2
              obtain ⟨wo, rfl⟩ : ∃ wo : World, wo = wr := ⟨_, rfl⟩
              obtain ⟨ko, hko⟩ : ∃ ko : Nat, ko = gk := ⟨_, rfl⟩
              go_wp2_with (fail)
              go_loopg [13] ps.length (fun kq v13 w' => ∃ y : Int, v13 = .int .i64 y ∧ 0 ≤ y ∧ y ≤ ps.length ∧ Aside0 ((kq : Int) + y = ps.length) ∧ Aside0 (Below wl.heap.size wl w'))
              case atStart => exact ⟨0, rfl, by omega, by omega, ⟨by simp⟩, HB⟩
              case round =>
                clear HB
                obtain ⟨y, rfl, q0, q1, HK2, HB⟩ := hrel
                by_cases hly : y < (ps.length : Int)
                · have c3b1 : decide (y < (ps.length : Int)) = true := decide_eq_true hly
                  obtain ⟨bd, e0, hw0, hw1⟩ := at_T38 HR1l.out y q0 hly
                  cases e0
                  have HW0 := Aside0.mk hw0
                  have hx0 := (HB.out.cell (World.block_lt_of_cell? wl _ HX0.out)).trans HX0.out
                  have hw0' := (HB.out.cell (World.block_lt_of_cell? wl _ hw0)).trans hw0
                  have HNP := Aside0.mk (HNX.out _ (rd38_mem (xs := ps) q0 hly))
                  have z0 : ((rd_T53 L x).f0 == (rd_T38 ps y).f0) = false := ne_beq HNP.out.1
                  have q0' : (0 ≤ y) = True := eq_true q0
                  have q1' : (y < (ps.length : Int)) = True := eq_true hly
                  clear hw0 hw1
                  obtain ⟨wm, rfl⟩ : ∃ wm : World, wm = wr := ⟨_, rfl⟩
                  obtain ⟨km, hkm⟩ : ∃ km : Nat, km = gk := ⟨_, rfl⟩
                  go_wp2_with (fail)
                  repeat (go_quiet (fail); try go_wp2)
                  obtain ⟨f1, hf1⟩ : ∃ f1, f1 = (rd_T53 L x).f1 := ⟨_, rfl⟩
                  have HX1' := Aside0.mk (show wl.cell? _ = some (.slice A5 f1.length c5) by rw [hf1]; exact HX1.out)
                  have HI1' := Aside0.mk (show Kd.C (Kd.int .u64) wl A5 f1.length f1 by rw [hf1]; exact HI1.out)
                  have HNS := Aside0.mk (show ∀ a ∈ f1, a ≠ (rd_T38 ps y).f0 by rw [hf1]; exact HNP.out.2)
                  have HFL : f1.length ≤ 60 := by rw [hf1]; exact HF1.out
                  clear hf1
                  go_loopg [14] f1.length (fun kq v14 w' => ∃ z : Int, v14 = .int .i64 z ∧ 0 ≤ z ∧ z ≤ f1.length ∧ Aside0 ((kq : Int) + z = f1.length) ∧ Aside0 (Below wl.heap.size wl w'))
                  case atStart => exact ⟨0, rfl, by omega, by omega, ⟨by simp⟩, ⟨(by repeat (first | (with_reducible first | exact HB.out | apply below_alloc | apply pw_below_drewN | apply below_drew1) | exact HB.out))⟩⟩
                  case round =>
                    clear HB hx0 hw0'
                    obtain ⟨z, rfl, r0, r1, HK3, HB⟩ := hrel
                    have hx1 := (HB.out.cell (World.block_lt_of_cell? wl _ HX1'.out)).trans HX1'.out
                    by_cases hlz : z < (f1.length : Int)
                    · have c3b2 : decide (z < (f1.length : Int)) = true := decide_eq_true hlz
                      obtain ⟨cd, e1, hy0⟩ := Kd.at_int HI1'.out z r0 hlz
                      cases e1
                      have hy0' := (HB.out.cell (World.block_lt_of_cell? wl _ hy0)).trans hy0
                      have hw0' := (HB.out.cell (World.block_lt_of_cell? wl _ HW0.out)).trans HW0.out
                      clear hy0
                      have z1 : (rd f1 z == (rd_T38 ps y).f0) = false := ne_beq (HNS.out _ (rd_mem r0 hlz))
                      have r0' : (0 ≤ z) = True := eq_true r0
                      have r1' : (z < (f1.length : Int)) = True := eq_true hlz
                      go_wp2_with (fail)
                      repeat (go_quiet (fail); try go_wp2)
                      go_roundg (gk - 1)
                      case measure => have := HK3.out; omega
                      case rel => exact ⟨z + 1, (by first | rfl | go_num), by omega, by omega, ⟨by have := HK3.out; omega⟩, ⟨(by repeat (first | (with_reducible first | exact HB.out | apply below_alloc | apply pw_below_drewN | apply below_drew1) | exact HB.out))⟩⟩
                    · have c3b2 : decide (z < (f1.length : Int)) = false := decide_eq_false hlz
                      go_wp2_with (fail)
                      go_roundg (km - 1)
                      case measure => have := HK2.out; rw [← hkm] at this ⊢; omega
                      case rel => exact ⟨y + 1, (by first | rfl | go_num), by omega, by omega, ⟨by have := HK2.out; rw [← hkm] at this; omega⟩, HB⟩
                · have c3b1 : decide (y < (ps.length : Int)) = false := decide_eq_false hly
                  go_wp2_with (fail)
                  go_roundg (ko - 1)
                  case measure => have := HK.out; rw [← hko] at this ⊢; omega
                  case rel => exact ⟨x + 1, (by first | rfl | go_num), by omega, by omega, ⟨by have := HK.out; rw [← hko] at this; omega⟩, HB⟩
            · have c3b0 : decide (x < (L.length : Int)) = false := decide_eq_false hlt
              have n0_ := Aside0.mk (HN.out.below HB.out)
              have n1_ := Aside0.mk (below_step HC.out HB.out)
              clear HN HC
              have HN := n0_
              have HC := n1_
              clear n0_ n1_ HB
              go_wp2_with (first | (go_at_call 22; (with_reducible refine (heap_Room gn L 50 5000 _ _ (HN.out.below (by repeat (first | (with_reducible first | exact Below.refl _ _ | apply below_alloc | apply pw_below_drewN | apply below_drew1) | exact Below.refl _ _)))).mono ?_); rintro e w' ⟨rfl, ⟨nd, rfl⟩⟩))
              go_ret
              exact ⟨rfl, (by repeat (first | (with_reducible first | exact HC.out | apply below_alloc | apply pw_below_drewN | apply below_drew1) | exact HC.out))⟩
      · have HER := Aside0.mk hz
        have z1 : (ofErr l 50 5000 == 0) = false := by simpa using hz
        have z2 : (ofErr l 50 5000 != 0) = true := by simpa using hz
        clear hz
        go_enter Try.func5, Try.ntmps5
        go_wp2_with (first | (go_at_call 12; (with_reducible refine (awake20 _).mono ?_); rintro e w' ⟨rfl, hb⟩; have n0_ := Aside0.mk (below_step (by repeat (first | (with_reducible first | exact HC.out | apply below_alloc | apply pw_below_drewN | apply below_drew1) | exact HC.out)) hb); clear HC; have HC := n0_; clear n0_; clear hb) | (go_at_call 13; (with_reducible refine (monticuleref18_Small.calls 100 A0 c0 l _ _ (Kd.C_below HR0.out (by repeat (first | (with_reducible first | exact HC.out | apply below_alloc | apply pw_below_drewN | apply below_drew1) | exact HC.out))) HC0.out HSM.out).mono ?_); rintro e w' ⟨rfl, ⟨nd, rfl⟩⟩) | (go_at_call 14; (with_reducible refine (of_room A0 c0 l 50 5000 _ (Kd.C_below HR0.out (by repeat (first | (with_reducible first | exact HC.out | apply below_alloc | apply pw_below_drewN | apply below_drew1) | exact HC.out))) HC0.out HS.out HW.out HO.out).mono ?_); rintro e w' ⟨hy, hn, hb⟩; obtain rfl := hn HER.out; have n0_ := Aside0.mk (below_step (by repeat (first | (with_reducible first | exact HC.out | apply below_alloc | apply pw_below_drewN | apply below_drew1) | exact HC.out)) hb); clear HC; have HC := n0_; clear n0_; clear hy hn hb))
        go_ret
        exact ⟨rfl, HC.out⟩
end Go.Proofs.Ytiokegmpooildaa.Hp
