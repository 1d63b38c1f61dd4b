/- CollectRuns, walked: it holds on every list of objects and of roots. -/
import Derived.Test.YtiokegmpooildaaCl
namespace Go.Proofs.Ytiokegmpooildaa.Hp
open Go.RowKit Go.Proofs.YtiokegmpooildaaW.PrintWords Go.Proofs.YtiokegmpooildaaW.PrintLast Go.Proofs.YtiokegmpooildaaW.PrintMore Go.Proofs.Ytiokegmpooildaa.PAll
set_option linter.unusedVariables false
set_option linter.unusedSimpArgs false
set_option maxHeartbeats 16000000 in
set_option maxRecDepth 100000 in
theorem law_runs (A0 : Option Addr) (c0 : Nat) (l : List S53) (A1 : Option Addr) (c1 : Nat) (roots : List Int) (w : World) (hr0 : Kd.C k53 w A0 l.length l) (hc0 : l.length ≤ c0) (hr1 : Kd.C (Kd.int .u64) w A1 roots.length roots) (hc1 : roots.length ≤ c1) (hW : WordsL l) (hps : ∀ a ∈ roots, W64 a) :
    Calls Try.prog 7 #[.slice A0 l.length c0, .slice A1 roots.length c1] w fun e w' => e = .returned (.bool true) ∧ Below w.heap.size w w' := by
  have HR0 := Aside0.mk hr0
  have HC0 := Aside0.mk hc0
  have HR1 := Aside0.mk hr1
  have HC1 := Aside0.mk hc1
  have HW := Aside0.mk hW
  have HRW := Aside0.mk hps
  clear hr0 hc0 hr1 hc1 hW hps
  have HC := Aside0.mk (Below.refl w.heap.size w)
  cases hsm : smallB l with
  | false =>
    have HSM : Aside0 (monticuleref18_Small.f 100 l = some false) := ⟨by rw [small_val, hsm]⟩
    go_enter Try.func7, Try.ntmps7
    go_wp2_with (first | (go_at_call 33; (with_reducible refine (awake19 _).mono ?_); rintro e w' ⟨rfl, hb⟩; have n0_ := Aside0.mk (below_step (by repeat (first | (with_reducible first | exact HC.out | apply below_alloc | apply pw_below_drewN | apply below_drew1) | exact HC.out)) hb); clear HC ; have HC := n0_; clear n0_; clear hb) | (go_at_call 13; (with_reducible refine (monticuleref18_Small.calls 100 A0 c0 l _ _ (Kd.C_below HR0.out (by repeat (first | (with_reducible first | exact HC.out | apply below_alloc | apply pw_below_drewN | apply below_drew1) | exact HC.out))) HC0.out HSM.out).mono ?_); rintro e w' ⟨rfl, ⟨nd, rfl⟩⟩))
    go_ret
    exact ⟨rfl, HC.out⟩
  | true =>
    have HSM : Aside0 (monticuleref18_Small.f 100 l = some true) := ⟨by rw [small_val, hsm]⟩
    by_cases hlen : (roots.length : Int) > 30
    · have d1 : decide ((30 : Int) < (roots.length : Int)) = true := decide_eq_true hlen
      go_enter Try.func7, Try.ntmps7
      go_wp2_with (first | (go_at_call 33; (with_reducible refine (awake19 _).mono ?_); rintro e w' ⟨rfl, hb⟩; have n0_ := Aside0.mk (below_step (by repeat (first | (with_reducible first | exact HC.out | apply below_alloc | apply pw_below_drewN | apply below_drew1) | exact HC.out)) hb); clear HC ; have HC := n0_; clear n0_; clear hb) | (go_at_call 13; (with_reducible refine (monticuleref18_Small.calls 100 A0 c0 l _ _ (Kd.C_below HR0.out (by repeat (first | (with_reducible first | exact HC.out | apply below_alloc | apply pw_below_drewN | apply below_drew1) | exact HC.out))) HC0.out HSM.out).mono ?_); rintro e w' ⟨rfl, ⟨nd, rfl⟩⟩))
      go_ret
      exact ⟨rfl, HC.out⟩
    · have d1 : decide ((30 : Int) < (roots.length : Int)) = false := decide_eq_false (by omega)
      have HS := Aside0.mk (smallB_L hsm)
      have HSB := Aside0.mk (smallB_in hsm)
      have hl5 : l.length ≤ 40 := HSB.out.1
      have hm : roots.length ≤ 30 := by omega
      have HO := Aside0.mk (show roomP 50 5000 by unfold roomP; decide)
      by_cases hz : ofErr l 50 5000 = 0
      · have HER := Aside0.mk hz
        have hne := ofErr_ne hz
        obtain ⟨bs, hmk, hmm⟩ := marks_val l roots hl5 (fun x hx => (HSB.out.2 x hx).1) (by omega) HW.out HRW.out
        obtain ⟨bs2, hre, hmm2⟩ := reached_val l roots hl5 (fun x hx => (HSB.out.2 x hx).1) (by omega) HW.out HRW.out (List.length_pos_iff.2 hne) 7000000 (Nat.le_refl _)
        obtain rfl := hmm.unique hmm2
        have HMK := Aside0.mk hmk
        have HRE := Aside0.mk hre
        have HBL := Aside0.mk hmm.1
        have hbl : bs.length ≤ 40 := by rw [hmm.1]; exact hl5
        have HB5 := Aside0.mk (show bs.length ≤ 5000 by omega)
        have HNE := Aside0.mk hne
        have HRL := Aside0.mk (show roots.length ≤ 100000 by omega)
        have HRU0 := run_val l roots bs 7000000 (Nat.le_refl _) hre hmm.1 hl5 HSB.out.2 HW.out (by omega) HRW.out
        have HKE0 := kept_ofErr hmm HW.out HRW.out hz
        have HGE := Aside0.mk (show ∀ a ∈ numsF bs 0, 0 ≤ a ∧ a < (l.length : Int) from fun a ha => by have := numsF_ge bs 0 a ha; have := hmm.1; omega)
        have hnl0 : (numsF bs 0).length ≤ 40 := Nat.le_trans (numsF_length bs 0) hbl
        have HKE := Aside0.mk HKE0
        obtain ⟨kl, hkl⟩ : ∃ kl, keptL (movedF (numsF bs 0)) l (numsF bs 0) = kl := ⟨_, rfl⟩
        obtain ⟨tw, hto⟩ : ∃ tw, roots.map (turn1 (movedF (numsF bs 0))) = tw := ⟨_, rfl⟩
        obtain ⟨ns, hns⟩ : ∃ ns, numsF bs 0 = ns := ⟨_, rfl⟩
        have HKL := Aside0.mk hkl
        have HTO := Aside0.mk hto
        have HNS := Aside0.mk hns
        have HTL := Aside0.mk (show roots.length = tw.length by rw [← hto, List.length_map])
        have HRU := Aside0.mk (show monticuleref19_Run.f 7000000 l roots = some (kl, tw) by rw [← hkl, ← hto]; exact HRU0)
        have HKS := Aside0.mk (show SmallL kl by rw [← hkl]; exact keptL_small HS.out (by omega) HGE.out)
        have HKN := Aside0.mk (show kl.length ≤ 40 by rw [← hkl]; unfold keptL; rw [List.length_map]; exact hnl0)
        have HS1 := Aside0.mk (same_refl kl 60 200 (by have := HKN.out; omega) (by omega) (by rw [← hkl]; exact keptL_slots (fun x hx => (HSB.out.2 x hx).1) HGE.out) (by have := HKN.out; omega))
        have HS2 := Aside0.mk (same_refl l 60 200 (by omega) (by omega) (fun x hx => (HSB.out.2 x hx).1) (by omega))
        have HWR := Aside0.mk (words_refl tw (by have := HTL.out; omega) 200 (by have := HTL.out; omega))
        have HLB := Aside0.mk (show l.length = bs.length from hmm.1.symm)
        clear hmk hre hmm hmm2 hne hkl hto hns HRU0 HKE0 hnl0 hz
        by_cases hq : True
        · go_enter Try.func7, Try.ntmps7
          go_wp2_with (first | (go_at_call 33; (with_reducible refine (awake19 _).mono ?_); rintro e w' ⟨rfl, hb⟩; have n0_ := Aside0.mk (below_step (by repeat (first | (with_reducible first | exact HC.out | apply below_alloc | apply pw_below_drewN | apply below_drew1) | exact HC.out)) hb); clear HC ; have HC := n0_; clear n0_; clear hb) | (go_at_call 13; (with_reducible refine (monticuleref18_Small.calls 100 A0 c0 l _ _ (Kd.C_below HR0.out (by repeat (first | (with_reducible first | exact HC.out | apply below_alloc | apply pw_below_drewN | apply below_drew1) | exact HC.out))) HC0.out HSM.out).mono ?_); rintro e w' ⟨rfl, ⟨nd, rfl⟩⟩) | (go_at_call 14; (with_reducible refine (of_room A0 c0 l 50 5000 _ (Kd.C_below HR0.out (by repeat (first | (with_reducible first | exact HC.out | apply below_alloc | apply pw_below_drewN | apply below_drew1) | exact HC.out))) HC0.out HS.out HW.out HO.out).mono ?_); rintro e w' ⟨hy, hn, hb⟩; obtain ⟨gh, rfl, hg⟩ := hy HER.out; have HH := Aside0.mk hg.reads; clear hg; have n0_ := Aside0.mk (below_step (by repeat (first | (with_reducible first | exact HC.out | apply below_alloc | apply pw_below_drewN | apply below_drew1) | exact HC.out)) hb); clear HC; have HC := n0_; clear n0_ hy hn hb) | (go_at_call 34; (with_reducible refine (monticuleref19_Reached.calls 7000000 A0 c0 l A1 c1 roots bs _ (Kd.C_below HR0.out (by repeat (first | (with_reducible first | exact HC.out | apply below_alloc | apply pw_below_drewN | apply below_drew1) | exact HC.out))) HC0.out (Kd.C_below HR1.out (by repeat (first | (with_reducible first | exact HC.out | apply below_alloc | apply pw_below_drewN | apply below_drew1) | exact HC.out))) HC1.out HRE.out).mono ?_); rintro e w' ⟨v, rfl, hS, hb⟩; obtain ⟨AB, cB, rfl, hlB, hCB⟩ := Kd.R_reads hS; clear hS; have n0_ := Aside0.mk (below_step (by repeat (first | (with_reducible first | exact HC.out | apply below_alloc | apply pw_below_drewN | apply below_drew1) | exact HC.out)) hb); have n1_ := Aside0.mk (HH.out.below (below_step (by repeat (first | (with_reducible first | exact Below.refl _ _ | apply below_alloc | apply pw_below_drewN | apply below_drew1) | exact Below.refl _ _)) hb)); clear HC HH; have HC := n0_; have HH := n1_; clear n0_ n1_; clear hb; have LB := Aside0.mk hlB; clear hlB; have HVB := Aside0.mk hCB; clear hCB) | (go_at_call 35; (with_reducible refine (collect_reached gh A1 c1 roots l 50 5000 _ bs 10000 _ (HH.out.below (by repeat (first | (with_reducible first | exact Below.refl _ _ | apply below_alloc | apply pw_below_drewN | apply below_drew1) | exact Below.refl _ _))) HS.out (Kd.C_below HR1.out (by repeat (first | (with_reducible first | exact HC.out | apply below_alloc | apply pw_below_drewN | apply below_drew1) | exact HC.out))) HC1.out HMK.out HB5.out).mono ?_); rintro e w' ⟨v, rfl, hS, hb⟩; rw [HNS.out] at hS; obtain ⟨AN, cN, rfl, hlN, hCN⟩ := Kd.R_reads hS; clear hS; have n0_ := Aside0.mk (below_step (by repeat (first | (with_reducible first | exact HC.out | apply below_alloc | apply pw_below_drewN | apply below_drew1) | exact HC.out)) hb); have n1_ := Aside0.mk (HH.out.below (below_step (by repeat (first | (with_reducible first | exact Below.refl _ _ | apply below_alloc | apply pw_below_drewN | apply below_drew1) | exact Below.refl _ _)) hb)); have n2_ := Aside0.mk (Kd.C_below HVB.out (below_step (by repeat (first | (with_reducible first | exact Below.refl _ _ | apply below_alloc | apply pw_below_drewN | apply below_drew1) | exact Below.refl _ _)) hb)); clear HC HH HVB; have HC := n0_; have HH := n1_; have HVB := n2_; clear n0_ n1_ n2_; clear hb; have LN := Aside0.mk hlN; clear hlN; have HVN := Aside0.mk hCN; clear hCN))
          clear LN
          obtain ⟨wl, hwl⟩ : ∃ wl : World, wl = w' := ⟨_, rfl⟩
          rw [← hwl] at HC HH HVB HVN ⊢
          clear hwl
          go_loopg [8, 10] bs.length (fun kq v8 v10 w' => ∃ x : Int, v10 = .int .i64 x ∧ v8 = .int .i64 (cntB (bs.take x.toNat) : Int) ∧ 0 ≤ x ∧ x ≤ bs.length ∧ Aside0 ((kq : Int) + x = bs.length) ∧ w' = wl)
          case atStart => exact ⟨0, rfl, rfl, by omega, by omega, ⟨by simp⟩, rfl⟩
          case round =>
            obtain ⟨x, rfl, rfl, p0, p1, HK, rfl⟩ := hrel
            by_cases hlt : x < (bs.length : Int)
            · have c3b0 : decide (x < (bs.length : Int)) = true := decide_eq_true hlt
              obtain ⟨ad, e0, hx0⟩ := Kd.at_bool HVB.out x p0 hlt
              cases e0
              have p0' : (0 ≤ x) = True := eq_true p0
              have p1' : (x < (bs.length : Int)) = True := eq_true hlt
              have hnx := cntB_next bs x p0 hlt
              have hcl := cntB_take_le bs x.toNat
              have hcb := cntB_len bs
              obtain ⟨c, hc⟩ : ∃ c : Int, c = (cntB (bs.take x.toNat) : Int) := ⟨_, rfl⟩
              have hc0 : 0 ≤ c := by omega
              cases hb_ : rdOf false bs x with
              | false =>
                rw [hb_] at hx0
                rw [if_neg (by rw [hb_]; decide)] at hnx
                have HNX := Aside0.mk hnx
                have HCC := Aside0.mk hc
                rw [← hc]
                clear hnx hc hcl hcb hb_
                go_wp2_with (fail)
                go_roundg (gk - 1)
                case measure => have := HK.out; omega
                case rel => exact ⟨x + 1, (by first | rfl | go_num), (by rw [HNX.out, HCC.out]), by omega, by omega, ⟨by have := HK.out; omega⟩, rfl⟩
              | true =>
                have hlt2 := cntB_lt bs x p0 hlt hb_
                have hat := nums_at bs x p0 hb_
                rw [← hc] at hat
                rw [hb_] at hx0
                rw [if_pos hb_] at hnx
                have hnl : (cntB bs : Int) = ns.length := by rw [← HNS.out]; rfl
                have hcn : c < (ns.length : Int) := by omega
                obtain ⟨adn, en, hxn⟩ := Kd.at_int HVN.out c hc0 hcn
                cases en
                rw [HNS.out] at hat
                rw [hat] at hxn
                have HNX := Aside0.mk hnx
                have HCC := Aside0.mk hc
                have z1 : decide ((ns.length : Int) ≤ c) = false := decide_eq_false (by omega)
                have q0' : (0 ≤ c) = True := eq_true hc0
                have q1' : (c < (ns.length : Int)) = True := eq_true hcn
                have hcu : c ≤ 5000 := by have := HB5.out; omega
                rw [← hc]
                clear hnx hc hcl hcb hb_ hlt2 hnl
                go_wp2_with (fail)
                go_roundg (gk - 1)
                case measure => have := HK.out; omega
                case rel => exact ⟨x + 1, (by first | rfl | go_num), (by rw [HNX.out, Int.natCast_add, ← HCC.out]; first | rfl | go_num), by omega, by omega, ⟨by have := HK.out; omega⟩, rfl⟩
            · have c3b0 : decide (x < (bs.length : Int)) = false := decide_eq_false hlt
              have e_ : bs.take x.toNat = bs := List.take_of_length_le (by omega)
              have e2_ : ((cntB bs : Nat) : Int) = ns.length := by rw [← HNS.out]; rfl
              rw [e_, e2_]
              clear e_ e2_ HVN
              go_wp2_with (first | (go_at_call 36; (with_reducible refine (collect_run gh A1 c1 roots l 50 5000 _ bs 10000 _ (HH.out.below (by repeat (first | (with_reducible first | exact Below.refl _ _ | apply below_alloc | apply pw_below_drewN | apply below_drew1) | exact Below.refl _ _))) HS.out HW.out HO.out (Kd.C_below HR1.out (by repeat (first | (with_reducible first | exact HC.out | apply below_alloc | apply pw_below_drewN | apply below_drew1) | exact HC.out))) HC1.out HRL.out HRW.out HMK.out HBL.out HNE.out HKE.out).mono ?_); rintro e w' ⟨gn, At, ct, he, hG, hT, hlt, hb⟩; rw [HKL.out] at hG; rw [HTO.out, HTL.out] at hT; rw [HTL.out] at he hlt; subst he; have n0_ := Aside0.mk (below_step (by repeat (first | (with_reducible first | exact HC.out | apply below_alloc | apply pw_below_drewN | apply below_drew1) | exact HC.out)) hb); have n1_ := Aside0.mk (HH.out.below (below_step (by repeat (first | (with_reducible first | exact Below.refl _ _ | apply below_alloc | apply pw_below_drewN | apply below_drew1) | exact Below.refl _ _)) hb)); have n2_ := Aside0.mk (Kd.C_below HVB.out (below_step (by repeat (first | (with_reducible first | exact Below.refl _ _ | apply below_alloc | apply pw_below_drewN | apply below_drew1) | exact Below.refl _ _)) hb)); clear HC HH HVB; have HC := n0_; have HH := n1_; have HVB := n2_; clear n0_ n1_ n2_; clear hb; have HG := Aside0.mk hG; clear hG; have HVT := Aside0.mk hT; clear hT; have LT := Aside0.mk hlt; clear hlt) | (go_at_call 37; (with_reducible refine (monticuleref19_Run.calls 7000000 A0 c0 l A1 c1 roots kl tw _ (Kd.C_below HR0.out (by repeat (first | (with_reducible first | exact HC.out | apply below_alloc | apply pw_below_drewN | apply below_drew1) | exact HC.out))) HC0.out (Kd.C_below HR1.out (by repeat (first | (with_reducible first | exact HC.out | apply below_alloc | apply pw_below_drewN | apply below_drew1) | exact HC.out))) HC1.out HRU.out).mono ?_); rintro e w' ⟨v, u, rfl, hS, hU, hb⟩; obtain ⟨AO, cO, rfl, hlO, hCO⟩ := Kd.S_reads hS; clear hS; obtain ⟨AU, cU, rfl, hlU, hCU⟩ := Kd.R_reads hU; clear hU; have n0_ := Aside0.mk (below_step (by repeat (first | (with_reducible first | exact HC.out | apply below_alloc | apply pw_below_drewN | apply below_drew1) | exact HC.out)) hb); have n1_ := Aside0.mk (HH.out.below (below_step (by repeat (first | (with_reducible first | exact Below.refl _ _ | apply below_alloc | apply pw_below_drewN | apply below_drew1) | exact Below.refl _ _)) hb)); have n2_ := Aside0.mk (Kd.C_below HVB.out (below_step (by repeat (first | (with_reducible first | exact Below.refl _ _ | apply below_alloc | apply pw_below_drewN | apply below_drew1) | exact Below.refl _ _)) hb)); have n3_ := Aside0.mk (HG.out.below (below_step (by repeat (first | (with_reducible first | exact Below.refl _ _ | apply below_alloc | apply pw_below_drewN | apply below_drew1) | exact Below.refl _ _)) hb)); have n4_ := Aside0.mk (Kd.C_below HVT.out (below_step (by repeat (first | (with_reducible first | exact Below.refl _ _ | apply below_alloc | apply pw_below_drewN | apply below_drew1) | exact Below.refl _ _)) hb)); clear HC HH HVB HG HVT; have HC := n0_; have HH := n1_; have HVB := n2_; have HG := n3_; have HVT := n4_; clear n0_ n1_ n2_ n3_ n4_; clear hb; have LO := Aside0.mk hlO; clear hlO; have HVO := Aside0.mk hCO; clear hCO; have LU := Aside0.mk hlU; clear hlU; have HVU := Aside0.mk hCU; clear hCU) | (go_at_call 18; (with_reducible refine (heap_Objects gn kl 50 5000 _ _ (HG.out.below (by repeat (first | (with_reducible first | exact Below.refl _ _ | apply below_alloc | apply pw_below_drewN | apply below_drew1) | exact Below.refl _ _))) HKS.out).mono ?_); rintro e w' ⟨v, rfl, hS, hb⟩; obtain ⟨AX, cX, rfl, hlX, hCX⟩ := Kd.S_reads hS; clear hS; have n0_ := Aside0.mk (below_step (by repeat (first | (with_reducible first | exact HC.out | apply below_alloc | apply pw_below_drewN | apply below_drew1) | exact HC.out)) hb); have n1_ := Aside0.mk (HH.out.below (below_step (by repeat (first | (with_reducible first | exact Below.refl _ _ | apply below_alloc | apply pw_below_drewN | apply below_drew1) | exact Below.refl _ _)) hb)); have n2_ := Aside0.mk (Kd.C_below HVB.out (below_step (by repeat (first | (with_reducible first | exact Below.refl _ _ | apply below_alloc | apply pw_below_drewN | apply below_drew1) | exact Below.refl _ _)) hb)); have n3_ := Aside0.mk (HG.out.below (below_step (by repeat (first | (with_reducible first | exact Below.refl _ _ | apply below_alloc | apply pw_below_drewN | apply below_drew1) | exact Below.refl _ _)) hb)); have n4_ := Aside0.mk (Kd.C_below HVT.out (below_step (by repeat (first | (with_reducible first | exact Below.refl _ _ | apply below_alloc | apply pw_below_drewN | apply below_drew1) | exact Below.refl _ _)) hb)); have n5_ := Aside0.mk (Kd.C_below HVO.out (below_step (by repeat (first | (with_reducible first | exact Below.refl _ _ | apply below_alloc | apply pw_below_drewN | apply below_drew1) | exact Below.refl _ _)) hb)); have n6_ := Aside0.mk (Kd.C_below HVU.out (below_step (by repeat (first | (with_reducible first | exact Below.refl _ _ | apply below_alloc | apply pw_below_drewN | apply below_drew1) | exact Below.refl _ _)) hb)); clear HC HH HVB HG HVT HVO HVU; have HC := n0_; have HH := n1_; have HVB := n2_; have HG := n3_; have HVT := n4_; have HVO := n5_; have HVU := n6_; clear n0_ n1_ n2_ n3_ n4_ n5_ n6_; clear hb; have LX := Aside0.mk hlX; clear hlX; have HVX := Aside0.mk hCX; clear hCX) | (go_at_call 17; (with_reducible refine (monticuleref18_Same.calls 200 AX cX kl AO cO kl _ _ (Kd.C_below HVX.out (by repeat (first | (with_reducible first | exact Below.refl _ _ | apply below_alloc | apply pw_below_drewN | apply below_drew1) | exact Below.refl _ _))) LX.out (Kd.C_below HVO.out (by repeat (first | (with_reducible first | exact Below.refl _ _ | apply below_alloc | apply pw_below_drewN | apply below_drew1) | exact Below.refl _ _))) LO.out HS1.out).mono ?_); rintro e w' ⟨rfl, hb⟩; have n0_ := Aside0.mk (below_step (by repeat (first | (with_reducible first | exact HC.out | apply below_alloc | apply pw_below_drewN | apply below_drew1) | exact HC.out)) hb); have n1_ := Aside0.mk (HH.out.below (below_step (by repeat (first | (with_reducible first | exact Below.refl _ _ | apply below_alloc | apply pw_below_drewN | apply below_drew1) | exact Below.refl _ _)) hb)); have n2_ := Aside0.mk (Kd.C_below HVB.out (below_step (by repeat (first | (with_reducible first | exact Below.refl _ _ | apply below_alloc | apply pw_below_drewN | apply below_drew1) | exact Below.refl _ _)) hb)); have n3_ := Aside0.mk (HG.out.below (below_step (by repeat (first | (with_reducible first | exact Below.refl _ _ | apply below_alloc | apply pw_below_drewN | apply below_drew1) | exact Below.refl _ _)) hb)); have n4_ := Aside0.mk (Kd.C_below HVT.out (below_step (by repeat (first | (with_reducible first | exact Below.refl _ _ | apply below_alloc | apply pw_below_drewN | apply below_drew1) | exact Below.refl _ _)) hb)); have n5_ := Aside0.mk (Kd.C_below HVU.out (below_step (by repeat (first | (with_reducible first | exact Below.refl _ _ | apply below_alloc | apply pw_below_drewN | apply below_drew1) | exact Below.refl _ _)) hb)); clear HC HH HVB HG HVT HVU; have HC := n0_; have HH := n1_; have HVB := n2_; have HG := n3_; have HVT := n4_; have HVU := n5_; clear n0_ n1_ n2_ n3_ n4_ n5_; clear hb) | (go_at_call 38; (with_reducible refine (monticuleref19_Words.calls 200 At ct tw AU cU tw _ _ (Kd.C_below HVT.out (by repeat (first | (with_reducible first | exact Below.refl _ _ | apply below_alloc | apply pw_below_drewN | apply below_drew1) | exact Below.refl _ _))) LT.out (Kd.C_below HVU.out (by repeat (first | (with_reducible first | exact Below.refl _ _ | apply below_alloc | apply pw_below_drewN | apply below_drew1) | exact Below.refl _ _))) LU.out HWR.out).mono ?_); rintro e w' ⟨rfl, ⟨nd, rfl⟩⟩) | (go_at_call 18; (with_reducible refine (heap_Objects gh l 50 5000 _ _ (HH.out.below (by repeat (first | (with_reducible first | exact Below.refl _ _ | apply below_alloc | apply pw_below_drewN | apply below_drew1) | exact Below.refl _ _))) HS.out).mono ?_); rintro e w' ⟨v, rfl, hS, hb⟩; obtain ⟨AY, cY, rfl, hlY, hCY⟩ := Kd.S_reads hS; clear hS; have n0_ := Aside0.mk (below_step (by repeat (first | (with_reducible first | exact HC.out | apply below_alloc | apply pw_below_drewN | apply below_drew1) | exact HC.out)) hb); have n1_ := Aside0.mk (HH.out.below (below_step (by repeat (first | (with_reducible first | exact Below.refl _ _ | apply below_alloc | apply pw_below_drewN | apply below_drew1) | exact Below.refl _ _)) hb)); have n2_ := Aside0.mk (Kd.C_below HVB.out (below_step (by repeat (first | (with_reducible first | exact Below.refl _ _ | apply below_alloc | apply pw_below_drewN | apply below_drew1) | exact Below.refl _ _)) hb)); have n3_ := Aside0.mk (HG.out.below (below_step (by repeat (first | (with_reducible first | exact Below.refl _ _ | apply below_alloc | apply pw_below_drewN | apply below_drew1) | exact Below.refl _ _)) hb)); clear HC HH HVB HG; have HC := n0_; have HH := n1_; have HVB := n2_; have HG := n3_; clear n0_ n1_ n2_ n3_; clear hb; have LY := Aside0.mk hlY; clear hlY; have HVY := Aside0.mk hCY; clear hCY) | (go_at_call 17; (with_reducible refine (monticuleref18_Same.calls 200 AY cY l A0 c0 l _ _ (Kd.C_below HVY.out (by repeat (first | (with_reducible first | exact Below.refl _ _ | apply below_alloc | apply pw_below_drewN | apply below_drew1) | exact Below.refl _ _))) LY.out (Kd.C_below HR0.out (by repeat (first | (with_reducible first | exact HC.out | apply below_alloc | apply pw_below_drewN | apply below_drew1) | exact HC.out))) HC0.out HS2.out).mono ?_); rintro e w' ⟨rfl, hb⟩; have n0_ := Aside0.mk (below_step (by repeat (first | (with_reducible first | exact HC.out | apply below_alloc | apply pw_below_drewN | apply below_drew1) | exact HC.out)) hb); have n1_ := Aside0.mk (HH.out.below (below_step (by repeat (first | (with_reducible first | exact Below.refl _ _ | apply below_alloc | apply pw_below_drewN | apply below_drew1) | exact Below.refl _ _)) hb)); have n2_ := Aside0.mk (Kd.C_below HVB.out (below_step (by repeat (first | (with_reducible first | exact Below.refl _ _ | apply below_alloc | apply pw_below_drewN | apply below_drew1) | exact Below.refl _ _)) hb)); have n3_ := Aside0.mk (HG.out.below (below_step (by repeat (first | (with_reducible first | exact Below.refl _ _ | apply below_alloc | apply pw_below_drewN | apply below_drew1) | exact Below.refl _ _)) hb)); clear HC HH HVB HG; have HC := n0_; have HH := n1_; have HVB := n2_; have HG := n3_; clear n0_ n1_ n2_ n3_; clear hb) | (go_at_call 39; (with_reducible refine (collect_moved gh A1 c1 roots l 50 5000 _ bs 10000 _ (HH.out.below (by repeat (first | (with_reducible first | exact Below.refl _ _ | apply below_alloc | apply pw_below_drewN | apply below_drew1) | exact Below.refl _ _))) HS.out (Kd.C_below HR1.out (by repeat (first | (with_reducible first | exact HC.out | apply below_alloc | apply pw_below_drewN | apply below_drew1) | exact HC.out))) HC1.out HMK.out HB5.out).mono ?_); rintro e w' ⟨b, rfl, hgb, hM, hb⟩; rw [HNS.out] at hM; clear hgb; have n0_ := Aside0.mk (below_step (by repeat (first | (with_reducible first | exact HC.out | apply below_alloc | apply pw_below_drewN | apply below_drew1) | exact HC.out)) hb); have n1_ := Aside0.mk (Kd.C_below HVB.out (below_step (by repeat (first | (with_reducible first | exact Below.refl _ _ | apply below_alloc | apply pw_below_drewN | apply below_drew1) | exact Below.refl _ _)) hb)); have n2_ := Aside0.mk (HG.out.below (below_step (by repeat (first | (with_reducible first | exact Below.refl _ _ | apply below_alloc | apply pw_below_drewN | apply below_drew1) | exact Below.refl _ _)) hb)); clear HC HVB HG; have HC := n0_; have HVB := n1_; have HG := n2_; clear n0_ n1_ n2_; clear hb; have HMZ := Aside0.mk hM; clear hM))
              obtain ⟨wk, hwk⟩ : ∃ wk : World, wk = w' := ⟨_, rfl⟩
              rw [← hwk] at HC HVB HG HMZ ⊢
              clear hwk
              obtain ⟨mm, hmm_⟩ : ∃ mm, mm = movedF ns := ⟨_, rfl⟩
              rw [← hmm_] at HMZ
              have HMM := Aside0.mk hmm_
              clear hmm_
              go_loopg [17] l.length (fun kq v17 w' => ∃ x : Int, v17 = .int .i64 x ∧ 0 ≤ x ∧ x ≤ l.length ∧ Aside0 ((kq : Int) + x = l.length) ∧ Aside0 (Below wk.heap.size wk w'))
              case atStart => exact ⟨0, rfl, by omega, by omega, ⟨by simp⟩, ⟨Below.refl _ _⟩⟩
              case round =>
                obtain ⟨x, rfl, p0, p1, HK2, HB2⟩ := hrel
                by_cases hlt : x < (l.length : Int)
                · have d3b0 : decide (x < (l.length : Int)) = true := decide_eq_true hlt
                  have hlb : x < (bs.length : Int) := by rw [← HLB.out]; exact hlt
                  obtain ⟨ad, e0, hx0⟩ := Kd.at_bool HVB.out x p0 hlb
                  cases e0
                  replace hx0 := (HB2.out.cell (World.block_lt_of_cell? wk _ hx0)).trans hx0
                  have p0' : (0 ≤ x) = True := eq_true p0
                  have p1' : (x < (bs.length : Int)) = True := eq_true hlb
                  have HW2 := Aside0.mk (show W64 (2 * x) by unfold W64; omega)
                  have hmv := movedF_nums bs (a := 2 * x) (by omega)
                  rw [HNS.out, ← HMM.out, show 2 * x / 2 = x by omega] at hmv
                  have HTX := Aside0.mk (show monticuleref19_Turn.f 7000000 (2 * x) bs = some (turn1 mm (2 * x)) by rw [HMM.out, ← HNS.out]; exact turn19_val bs HB5.out HW2.out 7000000 (by omega))
                  have hx2 : x ≤ 40 := by omega
                  have cv1 : IntKind.i64.wrap (2 * x) = 2 * x := by rw [i64_w]; unfold wrap64; omega
                  have cv2 : IntKind.u64.wrap (2 * x) = 2 * x := by rw [u64w]; omega
                  have cv3 : wrap64 (2 * x) = 2 * x := by unfold wrap64; omega
                  cases hb_ : rdOf false bs x with
                  | false =>
                    rw [hb_] at hx0
                    rw [if_neg (by rw [hb_]; rintro ⟨_, h⟩; cases h)] at hmv
                    have HMX := Aside0.mk hmv
                    clear hmv hb_
                    go_wp2_with (first | ((with_reducible refine gate_dst (N := 134) rfl ?_); refine wpList_look_w _ rfl (.tmp 130) (.tmp 133) rfl b ns.length mm (2 * x) rfl ?hxk HW2.out (HMZ.out.toW.below (by repeat (first | (with_reducible first | exact HB2.out | apply below_alloc | apply pw_below_drewN | apply below_drew1) | exact HB2.out))) ?_; (case hxk => first | rfl | (go_simp; done)); rw [HMX.out]))
                    go_roundg (gk - 1)
                    case measure => have := HK2.out; omega
                    case rel => exact ⟨x + 1, (by first | rfl | go_num), by omega, by omega, ⟨by have := HK2.out; omega⟩, ⟨(by repeat (first | (with_reducible first | exact HB2.out | apply below_alloc | apply pw_below_drewN | apply below_drew1) | exact HB2.out))⟩⟩
                  | true =>
                    rw [hb_] at hx0
                    rw [if_pos ⟨by omega, hb_⟩] at hmv
                    obtain ⟨t, ht⟩ : ∃ t, t = 2 * (cntB (bs.take x.toNat) : Int) := ⟨_, rfl⟩
                    rw [← ht] at hmv
                    have HMX := Aside0.mk hmv
                    have HTV := Aside0.mk (show turn1 mm (2 * x) = t by unfold turn1; rw [hmv]; rfl)
                    clear hmv hb_ ht
                    go_wp2_with (first | ((with_reducible refine gate_dst (N := 134) rfl ?_); refine wpList_look_w _ rfl (.tmp 130) (.tmp 133) rfl b ns.length mm (2 * x) rfl ?hxk HW2.out (HMZ.out.toW.below (by repeat (first | (with_reducible first | exact HB2.out | apply below_alloc | apply pw_below_drewN | apply below_drew1) | exact HB2.out))) ?_; (case hxk => first | rfl | (go_simp; done)); rw [HMX.out]))
                    refine (monticuleref19_Turn.calls 7000000 (2 * x) _ _ bs (turn1 mm (2 * x)) _ (Kd.C_below HVB.out (by repeat (first | (with_reducible first | exact HB2.out | apply below_alloc | apply pw_below_drewN | apply below_drew1) | exact HB2.out))) LB.out HTX.out).mono ?_
                    rintro e w' ⟨rfl, ⟨nd, rfl⟩⟩
                    rw [HTV.out]
                    go_wp2_with (fail)
                    go_roundg (gk - 1)
                    case measure => have := HK2.out; omega
                    case rel => exact ⟨x + 1, (by first | rfl | go_num), by omega, by omega, ⟨by have := HK2.out; omega⟩, ⟨(by repeat (first | (with_reducible first | exact HB2.out | apply below_alloc | apply pw_below_drewN | apply below_drew1) | exact HB2.out))⟩⟩
                · have d3b0 : decide (x < (l.length : Int)) = false := decide_eq_false hlt
                  have n0_ := Aside0.mk (HG.out.below HB2.out)
                  have n1_ := Aside0.mk (below_step HC.out HB2.out)
                  have n2_ := Aside0.mk (HMZ.out.below HB2.out)
                  clear HG HC HMZ HB2 HVB
                  have HG := n0_
                  have HC := n1_
                  have HMZ := n2_
                  clear n0_ n1_ n2_
                  go_wp2_with (first | (go_at_call 22; (with_reducible refine (heap_Room gn kl 50 5000 _ _ (HG.out.below (by repeat (first | (with_reducible first | exact Below.refl _ _ | apply below_alloc | apply pw_below_drewN | apply below_drew1) | exact Below.refl _ _)))).mono ?_); rintro e w' ⟨rfl, ⟨nd, rfl⟩⟩) | ((with_reducible refine gate_dst (N := 161) rfl ?_); refine wpList_len_z _ rfl (.tmp 160) rfl b ns.length mm rfl (HMZ.out.below (by repeat (first | (with_reducible first | exact Below.refl _ _ | apply below_alloc | apply pw_below_drewN | apply below_drew1) | exact Below.refl _ _))) ?_))
                  go_ret
                  exact ⟨rfl, (by repeat (first | (with_reducible first | exact HC.out | apply below_alloc | apply pw_below_drewN | apply below_drew1) | exact HC.out))⟩
        · exact absurd trivial hq
      · have HER := Aside0.mk hz
        have z1 : (ofErr l 50 5000 == 0) = false := by simpa using hz
        have z2 : (ofErr l 50 5000 != 0) = true := by simpa using hz
        clear hz
        go_enter Try.func7, Try.ntmps7
        go_wp2_with (first | (go_at_call 33; (with_reducible refine (awake19 _).mono ?_); rintro e w' ⟨rfl, hb⟩; have n0_ := Aside0.mk (below_step (by repeat (first | (with_reducible first | exact HC.out | apply below_alloc | apply pw_below_drewN | apply below_drew1) | exact HC.out)) hb); clear HC ; have HC := n0_; clear n0_; clear hb) | (go_at_call 13; (with_reducible refine (monticuleref18_Small.calls 100 A0 c0 l _ _ (Kd.C_below HR0.out (by repeat (first | (with_reducible first | exact HC.out | apply below_alloc | apply pw_below_drewN | apply below_drew1) | exact HC.out))) HC0.out HSM.out).mono ?_); rintro e w' ⟨rfl, ⟨nd, rfl⟩⟩) | (go_at_call 14; (with_reducible refine (of_room A0 c0 l 50 5000 _ (Kd.C_below HR0.out (by repeat (first | (with_reducible first | exact HC.out | apply below_alloc | apply pw_below_drewN | apply below_drew1) | exact HC.out))) HC0.out HS.out HW.out HO.out).mono ?_); rintro e w' ⟨hy, hn, hb⟩; obtain rfl := hn HER.out; have n0_ := Aside0.mk (below_step (by repeat (first | (with_reducible first | exact HC.out | apply below_alloc | apply pw_below_drewN | apply below_drew1) | exact HC.out)) hb); clear HC; have HC := n0_; clear n0_ hy hn hb))
        go_ret
        exact ⟨rfl, HC.out⟩
end Go.Proofs.Ytiokegmpooildaa.Hp
