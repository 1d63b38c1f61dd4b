/- CollectTwice, walked: it holds on every list of objects and of roots. -/
import Derived.Test.YtiokegmpooildaaCl
namespace Go.Proofs.Ytiokegmpooildaa.Hp
open Go.RowKit Go.Proofs.YtiokegmpooildaaW.PrintWords Go.Proofs.YtiokegmpooildaaW.PrintLast Go.Proofs.YtiokegmpooildaaW.PrintMore Go.Proofs.Ytiokegmpooildaa.PAll
set_option linter.unusedVariables false
set_option linter.unusedSimpArgs false
set_option maxHeartbeats 16000000 in
set_option maxRecDepth 100000 in
theorem law_twice (A0 : Option Addr) (c0 : Nat) (l : List S53) (A1 : Option Addr) (c1 : Nat) (roots : List Int) (w : World) (hr0 : Kd.C k53 w A0 l.length l) (hc0 : l.length ≤ c0) (hr1 : Kd.C (Kd.int .u64) w A1 roots.length roots) (hc1 : roots.length ≤ c1) (hW : WordsL l) (hps : ∀ a ∈ roots, W64 a) :
    Calls Try.prog 8 #[.slice A0 l.length c0, .slice A1 roots.length c1] w fun e w' => e = .returned (.bool true) ∧ Below w.heap.size w w' := by
  have HR0 := Aside0.mk hr0
  have HC0 := Aside0.mk hc0
  have HR1 := Aside0.mk hr1
  have HC1 := Aside0.mk hc1
  have HW := Aside0.mk hW
  have HRW := Aside0.mk hps
  clear hr0 hc0 hr1 hc1 hW hps
  have HC := Aside0.mk (Below.refl w.heap.size w)
  cases hsm : smallB l with
  | false =>
    have HSM : Aside0 (monticuleref18_Small.f 100 l = some false) := ⟨by rw [small_val, hsm]⟩
    go_enter Try.func8, Try.ntmps8
    go_wp2_with (first | (go_at_call 33; (with_reducible refine (awake19 _).mono ?_); rintro e w' ⟨rfl, hb⟩; have n0_ := Aside0.mk (below_step (by repeat (first | (with_reducible first | exact HC.out | apply below_alloc | apply pw_below_drewN | apply below_drew1) | exact HC.out)) hb); clear HC ; have HC := n0_; clear n0_; clear hb) | (go_at_call 13; (with_reducible refine (monticuleref18_Small.calls 100 A0 c0 l _ _ (Kd.C_below HR0.out (by repeat (first | (with_reducible first | exact HC.out | apply below_alloc | apply pw_below_drewN | apply below_drew1) | exact HC.out))) HC0.out HSM.out).mono ?_); rintro e w' ⟨rfl, ⟨nd, rfl⟩⟩))
    go_ret
    exact ⟨rfl, HC.out⟩
  | true =>
    have HSM : Aside0 (monticuleref18_Small.f 100 l = some true) := ⟨by rw [small_val, hsm]⟩
    by_cases hlen : (roots.length : Int) > 30
    · have d1 : decide ((30 : Int) < (roots.length : Int)) = true := decide_eq_true hlen
      go_enter Try.func8, Try.ntmps8
      go_wp2_with (first | (go_at_call 33; (with_reducible refine (awake19 _).mono ?_); rintro e w' ⟨rfl, hb⟩; have n0_ := Aside0.mk (below_step (by repeat (first | (with_reducible first | exact HC.out | apply below_alloc | apply pw_below_drewN | apply below_drew1) | exact HC.out)) hb); clear HC ; have HC := n0_; clear n0_; clear hb) | (go_at_call 13; (with_reducible refine (monticuleref18_Small.calls 100 A0 c0 l _ _ (Kd.C_below HR0.out (by repeat (first | (with_reducible first | exact HC.out | apply below_alloc | apply pw_below_drewN | apply below_drew1) | exact HC.out))) HC0.out HSM.out).mono ?_); rintro e w' ⟨rfl, ⟨nd, rfl⟩⟩))
      go_ret
      exact ⟨rfl, HC.out⟩
    · have d1 : decide ((30 : Int) < (roots.length : Int)) = false := decide_eq_false (by omega)
      have HS := Aside0.mk (smallB_L hsm)
      have HSB := Aside0.mk (smallB_in hsm)
      have hl5 : l.length ≤ 40 := HSB.out.1
      have hm : roots.length ≤ 30 := by omega
      have HO := Aside0.mk (show roomP 50 5000 by unfold roomP; decide)
      by_cases hz : ofErr l 50 5000 = 0
      · have HER := Aside0.mk hz
        have hne := ofErr_ne hz
        obtain ⟨bs, hmk, hmm⟩ := marks_val l roots hl5 (fun x hx => (HSB.out.2 x hx).1) (by omega) HW.out HRW.out
        have HMK := Aside0.mk hmk
        have HBL := Aside0.mk hmm.1
        have hbl : bs.length ≤ 40 := by rw [hmm.1]; exact hl5
        have HB5 := Aside0.mk (show bs.length ≤ 5000 by omega)
        have HNE := Aside0.mk hne
        have HRL := Aside0.mk (show roots.length ≤ 100000 by omega)
        have HKE0 := kept_ofErr hmm HW.out HRW.out hz
        have HGE := Aside0.mk (show ∀ a ∈ numsF bs 0, 0 ≤ a ∧ a < (l.length : Int) from fun a ha => by have := numsF_ge bs 0 a ha; have := hmm.1; omega)
        have hnl0 : (numsF bs 0).length ≤ 40 := Nat.le_trans (numsF_length bs 0) hbl
        have HKE := Aside0.mk HKE0
        obtain ⟨kl, hkl⟩ : ∃ kl, keptL (movedF (numsF bs 0)) l (numsF bs 0) = kl := ⟨_, rfl⟩
        obtain ⟨tw, hto⟩ : ∃ tw, roots.map (turn1 (movedF (numsF bs 0))) = tw := ⟨_, rfl⟩
        obtain ⟨ns, hns⟩ : ∃ ns, numsF bs 0 = ns := ⟨_, rfl⟩
        have HKL := Aside0.mk hkl
        have HTO := Aside0.mk hto
        have HNS := Aside0.mk hns
        have HTL := Aside0.mk (show roots.length = tw.length by rw [← hto, List.length_map])
        have HKS := Aside0.mk (show SmallL kl by rw [← hkl]; exact keptL_small HS.out (by omega) HGE.out)
        have HKN := Aside0.mk (show kl.length ≤ 40 by rw [← hkl]; unfold keptL; rw [List.length_map]; exact hnl0)
        have HS1 := Aside0.mk (same_refl kl 60 200 (by have := HKN.out; omega) (by omega) (by rw [← hkl]; exact keptL_slots (fun x hx => (HSB.out.2 x hx).1) HGE.out) (by have := HKN.out; omega))
        have HWR := Aside0.mk (words_refl tw (by have := HTL.out; omega) 200 (by have := HTL.out; omega))
        have HLB := Aside0.mk (show l.length = bs.length from hmm.1.symm)
        have HWK := Aside0.mk (show WordsL kl by rw [← hkl]; exact keptL_words HW.out (movedF_word _ (by omega)) HGE.out)
        have HTW := Aside0.mk (show ∀ a ∈ tw, W64 a by rw [← hto]; intro a ha; obtain ⟨c, hc, rfl⟩ := List.mem_map.1 ha; exact turn1_W (movedF_word _ (by omega)) (HRW.out c hc))
        have HTN := Aside0.mk (show tw.length ≤ 100000 by have := HTL.out; omega)
        have HKQ : ∀ x ∈ kl, x.f1.length ≤ 60 := by rw [← hkl]; exact keptL_slots (fun x hx => (HSB.out.2 x hx).1) HGE.out
        obtain ⟨bs2, hmk2, hm2⟩ := marks_val kl tw HKN.out HKQ (by have := HTL.out; omega) HWK.out HTW.out
        have e2 : bs2 = List.replicate kl.length true := by
          have h_ := marked_again hmm HW.out HRW.out (bs2 := bs2) (by rw [hkl, hto]; exact hm2)
          rw [hkl] at h_
          exact h_
        rw [e2] at hmk2
        have HMK2 := Aside0.mk hmk2
        have HBL2 := Aside0.mk (show (List.replicate kl.length true).length = kl.length from List.length_replicate ..)
        rw [hkl] at HKE0
        have HKNE := Aside0.mk (ofErr_ne HKE0)
        have HKL2 := Aside0.mk (kept_all kl HWK.out)
        have HTO2 := Aside0.mk (tos_all kl.length tw HTW.out)
        have HKE2 := Aside0.mk (show ofErr (keptL (movedF (numsF (List.replicate kl.length true) 0)) kl (numsF (List.replicate kl.length true) 0)) 50 5000 = 0 by rw [HKL2.out]; exact HKE0)
        clear hmk hmm hne hkl hto hns HKE0 hnl0 hz hmk2 hm2 e2 HKQ
        go_enter Try.func8, Try.ntmps8
        go_wp2_with (first | (go_at_call 33; (with_reducible refine (awake19 _).mono ?_); rintro e w' ⟨rfl, hb⟩; have n0_ := Aside0.mk (below_step (by repeat (first | (with_reducible first | exact HC.out | apply below_alloc | apply pw_below_drewN | apply below_drew1) | exact HC.out)) hb); clear HC ; have HC := n0_; clear n0_; clear hb) | (go_at_call 13; (with_reducible refine (monticuleref18_Small.calls 100 A0 c0 l _ _ (Kd.C_below HR0.out (by repeat (first | (with_reducible first | exact HC.out | apply below_alloc | apply pw_below_drewN | apply below_drew1) | exact HC.out))) HC0.out HSM.out).mono ?_); rintro e w' ⟨rfl, ⟨nd, rfl⟩⟩) | (go_at_call 14; (with_reducible refine (of_room A0 c0 l 50 5000 _ (Kd.C_below HR0.out (by repeat (first | (with_reducible first | exact HC.out | apply below_alloc | apply pw_below_drewN | apply below_drew1) | exact HC.out))) HC0.out HS.out HW.out HO.out).mono ?_); rintro e w' ⟨hy, hn, hb⟩; obtain ⟨gh, rfl, hg⟩ := hy HER.out; have HH := Aside0.mk hg.reads; clear hg; have n0_ := Aside0.mk (below_step (by repeat (first | (with_reducible first | exact HC.out | apply below_alloc | apply pw_below_drewN | apply below_drew1) | exact HC.out)) hb); clear HC; have HC := n0_; clear n0_ hy hn hb))
        obtain ⟨wl, hwl⟩ : ∃ wl : World, wl = w' := ⟨_, rfl⟩
        rw [← hwl] at HC HH ⊢
        clear hwl
        have HR1l := Aside0.mk (Kd.C_below HR1.out HC.out)
        go_loopg [7] roots.length (fun kq v7 w' => ∃ x : Int, v7 = .int .i64 x ∧ 0 ≤ x ∧ x ≤ roots.length ∧ Aside0 ((kq : Int) + x = roots.length) ∧ Aside0 (Below wl.heap.size wl w'))
        case atStart => exact ⟨0, rfl, by omega, by omega, ⟨by simp⟩, ⟨Below.refl _ _⟩⟩
        case round =>
          obtain ⟨x, rfl, p0, p1, HK2, HB2⟩ := hrel
          by_cases hlt : x < (roots.length : Int)
          · have d3b0 : decide (x < (roots.length : Int)) = true := decide_eq_true hlt
            obtain ⟨ad, e0, hx0⟩ := Kd.at_int HR1l.out x p0 hlt
            cases e0
            replace hx0 := (HB2.out.cell (World.block_lt_of_cell? wl _ hx0)).trans hx0
            have p0' : (0 ≤ x) = True := eq_true p0
            have p1' : (x < (roots.length : Int)) = True := eq_true hlt
            have hwa := HRW.out _ (rd_mem p0 hlt)
            obtain ⟨a, ha_⟩ : ∃ a, a = rd roots x := ⟨_, rfl⟩
            rw [← ha_] at hx0 hwa
            have HTH := Aside0.mk (there18 hwa l.length (by omega))
            unfold W64 at hwa
            have r1 : IntKind.u64.wrap (Int.tmod a 2) = a % 2 := by rw [Int.tmod_eq_emod_of_nonneg hwa.1, u64w]; omega
            have r2 : Int.tmod a 2 = a % 2 := Int.tmod_eq_emod_of_nonneg hwa.1
            clear ha_
            by_cases hev : a % 2 = 0
            · have z1 : (a % 2 == 0) = true := by simpa using hev
              cases ht : thereP l.length a with
              | false =>
                have HTT := Aside0.mk (show (if thereP l.length a = true then a / 2 else -1) = -1 by rw [ht]; rfl)
                clear ht
                go_wp2_with (first | (go_at_call 41; (with_reducible refine (monticuleref18_There.calls a (l.length : Int) _ _ HTH.out).mono ?_); rintro e w' ⟨rfl, ⟨nd, rfl⟩⟩; rw [HTT.out]))
                go_ret
                exact ⟨rfl, below_step HC.out (by repeat (first | (with_reducible first | exact HB2.out | apply below_alloc | apply pw_below_drewN | apply below_drew1) | exact HB2.out))⟩
              | true =>
                have HTT := Aside0.mk (show (if thereP l.length a = true then a / 2 else -1) = a / 2 by rw [ht]; rfl)
                have z2 : decide (a / 2 < 0) = false := decide_eq_false (by omega)
                clear ht
                go_wp2_with (first | (go_at_call 41; (with_reducible refine (monticuleref18_There.calls a (l.length : Int) _ _ HTH.out).mono ?_); rintro e w' ⟨rfl, ⟨nd, rfl⟩⟩; rw [HTT.out]))
                go_roundg (gk - 1)
                case measure => have := HK2.out; omega
                case rel => exact ⟨x + 1, (by first | rfl | go_num), by omega, by omega, ⟨by have := HK2.out; omega⟩, ⟨(by repeat (first | (with_reducible first | exact HB2.out | apply below_alloc | apply pw_below_drewN | apply below_drew1) | exact HB2.out))⟩⟩
            · have z1 : (a % 2 == 0) = false := by simpa using hev
              go_wp2_with (fail)
              go_roundg (gk - 1)
              case measure => have := HK2.out; omega
              case rel => exact ⟨x + 1, (by first | rfl | go_num), by omega, by omega, ⟨by have := HK2.out; omega⟩, ⟨(by repeat (first | (with_reducible first | exact HB2.out | apply below_alloc | apply pw_below_drewN | apply below_drew1) | exact HB2.out))⟩⟩
          · have d3b0 : decide (x < (roots.length : Int)) = false := decide_eq_false hlt
            have n0_ := Aside0.mk (HH.out.below HB2.out)
            have n1_ := Aside0.mk (below_step HC.out HB2.out)
            clear HH HC HB2 HR1l
            have HH := n0_
            have HC := n1_
            clear n0_ n1_
            go_wp2_with (first | (go_at_call 36; (with_reducible refine (collect_run gn At ct tw kl 50 5000 _ (List.replicate kl.length true) 10000 _ (HG.out.below (by repeat (first | (with_reducible first | exact Below.refl _ _ | apply below_alloc | apply pw_below_drewN | apply below_drew1) | exact Below.refl _ _))) HKS.out HWK.out HO.out (Kd.C_below HVT.out (by repeat (first | (with_reducible first | exact Below.refl _ _ | apply below_alloc | apply pw_below_drewN | apply below_drew1) | exact Below.refl _ _))) LT.out HTN.out HTW.out HMK2.out HBL2.out HKNE.out HKE2.out).mono ?_); rintro e w' ⟨gx, As, cs, rfl, hG, hT, hlt, hb⟩; rw [HKL2.out] at hG; rw [HTO2.out] at hT; have n0_ := Aside0.mk (below_step (by repeat (first | (with_reducible first | exact HC.out | apply below_alloc | apply pw_below_drewN | apply below_drew1) | exact HC.out)) hb); have n1_ := Aside0.mk (HG.out.below (below_step (by repeat (first | (with_reducible first | exact Below.refl _ _ | apply below_alloc | apply pw_below_drewN | apply below_drew1) | exact Below.refl _ _)) hb)); have n2_ := Aside0.mk (Kd.C_below HVT.out (below_step (by repeat (first | (with_reducible first | exact Below.refl _ _ | apply below_alloc | apply pw_below_drewN | apply below_drew1) | exact Below.refl _ _)) hb)); clear HC HG HVT; have HC := n0_; have HG := n1_; have HVT := n2_; clear n0_ n1_ n2_; clear hb; have HX := Aside0.mk hG; clear hG; have HVS := Aside0.mk hT; clear hT; have LS := Aside0.mk hlt; clear hlt) | (go_at_call 36; (with_reducible refine (collect_run gh A1 c1 roots l 50 5000 _ bs 10000 _ (HH.out.below (by repeat (first | (with_reducible first | exact Below.refl _ _ | apply below_alloc | apply pw_below_drewN | apply below_drew1) | exact Below.refl _ _))) HS.out HW.out HO.out (Kd.C_below HR1.out (by repeat (first | (with_reducible first | exact HC.out | apply below_alloc | apply pw_below_drewN | apply below_drew1) | exact HC.out))) HC1.out HRL.out HRW.out HMK.out HBL.out HNE.out HKE.out).mono ?_); rintro e w' ⟨gn, At, ct, he, hG, hT, hlt, hb⟩; rw [HKL.out] at hG; rw [HTO.out, HTL.out] at hT; rw [HTL.out] at he hlt; subst he; have n0_ := Aside0.mk (below_step (by repeat (first | (with_reducible first | exact HC.out | apply below_alloc | apply pw_below_drewN | apply below_drew1) | exact HC.out)) hb); clear HC ; have HC := n0_; clear n0_; clear hb; have HG := Aside0.mk hG; clear hG; have HVT := Aside0.mk hT; clear hT; have LT := Aside0.mk hlt; clear hlt) | (go_at_call 18; (with_reducible refine (heap_Objects gx kl 50 5000 _ _ (HX.out.below (by repeat (first | (with_reducible first | exact Below.refl _ _ | apply below_alloc | apply pw_below_drewN | apply below_drew1) | exact Below.refl _ _))) HKS.out).mono ?_); rintro e w' ⟨v, rfl, hS, hb⟩; obtain ⟨AX, cX, rfl, hlX, hCX⟩ := Kd.S_reads hS; clear hS; have n0_ := Aside0.mk (below_step (by repeat (first | (with_reducible first | exact HC.out | apply below_alloc | apply pw_below_drewN | apply below_drew1) | exact HC.out)) hb); have n1_ := Aside0.mk (HG.out.below (below_step (by repeat (first | (with_reducible first | exact Below.refl _ _ | apply below_alloc | apply pw_below_drewN | apply below_drew1) | exact Below.refl _ _)) hb)); have n2_ := Aside0.mk (Kd.C_below HVT.out (below_step (by repeat (first | (with_reducible first | exact Below.refl _ _ | apply below_alloc | apply pw_below_drewN | apply below_drew1) | exact Below.refl _ _)) hb)); have n3_ := Aside0.mk (HX.out.below (below_step (by repeat (first | (with_reducible first | exact Below.refl _ _ | apply below_alloc | apply pw_below_drewN | apply below_drew1) | exact Below.refl _ _)) hb)); have n4_ := Aside0.mk (Kd.C_below HVS.out (below_step (by repeat (first | (with_reducible first | exact Below.refl _ _ | apply below_alloc | apply pw_below_drewN | apply below_drew1) | exact Below.refl _ _)) hb)); clear HC HG HVT HX HVS; have HC := n0_; have HG := n1_; have HVT := n2_; have HX := n3_; have HVS := n4_; clear n0_ n1_ n2_ n3_ n4_; clear hb; have LX := Aside0.mk hlX; clear hlX; have HVX := Aside0.mk hCX; clear hCX) | (go_at_call 18; (with_reducible refine (heap_Objects gn kl 50 5000 _ _ (HG.out.below (by repeat (first | (with_reducible first | exact Below.refl _ _ | apply below_alloc | apply pw_below_drewN | apply below_drew1) | exact Below.refl _ _))) HKS.out).mono ?_); rintro e w' ⟨v, rfl, hS, hb⟩; obtain ⟨AP, cP, rfl, hlP, hCP⟩ := Kd.S_reads hS; clear hS; have n0_ := Aside0.mk (below_step (by repeat (first | (with_reducible first | exact HC.out | apply below_alloc | apply pw_below_drewN | apply below_drew1) | exact HC.out)) hb); have n1_ := Aside0.mk (HG.out.below (below_step (by repeat (first | (with_reducible first | exact Below.refl _ _ | apply below_alloc | apply pw_below_drewN | apply below_drew1) | exact Below.refl _ _)) hb)); have n2_ := Aside0.mk (Kd.C_below HVT.out (below_step (by repeat (first | (with_reducible first | exact Below.refl _ _ | apply below_alloc | apply pw_below_drewN | apply below_drew1) | exact Below.refl _ _)) hb)); have n3_ := Aside0.mk (HX.out.below (below_step (by repeat (first | (with_reducible first | exact Below.refl _ _ | apply below_alloc | apply pw_below_drewN | apply below_drew1) | exact Below.refl _ _)) hb)); have n4_ := Aside0.mk (Kd.C_below HVS.out (below_step (by repeat (first | (with_reducible first | exact Below.refl _ _ | apply below_alloc | apply pw_below_drewN | apply below_drew1) | exact Below.refl _ _)) hb)); have n5_ := Aside0.mk (Kd.C_below HVX.out (below_step (by repeat (first | (with_reducible first | exact Below.refl _ _ | apply below_alloc | apply pw_below_drewN | apply below_drew1) | exact Below.refl _ _)) hb)); clear HC HG HVT HX HVS HVX; have HC := n0_; have HG := n1_; have HVT := n2_; have HX := n3_; have HVS := n4_; have HVX := n5_; clear n0_ n1_ n2_ n3_ n4_ n5_; clear hb; have LP := Aside0.mk hlP; clear hlP; have HVP := Aside0.mk hCP; clear hCP) | (go_at_call 17; (with_reducible refine (monticuleref18_Same.calls 200 AX cX kl AP cP kl _ _ (Kd.C_below HVX.out (by repeat (first | (with_reducible first | exact Below.refl _ _ | apply below_alloc | apply pw_below_drewN | apply below_drew1) | exact Below.refl _ _))) LX.out (Kd.C_below HVP.out (by repeat (first | (with_reducible first | exact Below.refl _ _ | apply below_alloc | apply pw_below_drewN | apply below_drew1) | exact Below.refl _ _))) LP.out HS1.out).mono ?_); rintro e w' ⟨rfl, hb⟩; have n0_ := Aside0.mk (below_step (by repeat (first | (with_reducible first | exact HC.out | apply below_alloc | apply pw_below_drewN | apply below_drew1) | exact HC.out)) hb); have n1_ := Aside0.mk (Kd.C_below HVT.out (below_step (by repeat (first | (with_reducible first | exact Below.refl _ _ | apply below_alloc | apply pw_below_drewN | apply below_drew1) | exact Below.refl _ _)) hb)); have n2_ := Aside0.mk (Kd.C_below HVS.out (below_step (by repeat (first | (with_reducible first | exact Below.refl _ _ | apply below_alloc | apply pw_below_drewN | apply below_drew1) | exact Below.refl _ _)) hb)); clear HC HVT HVS; have HC := n0_; have HVT := n1_; have HVS := n2_; clear n0_ n1_ n2_; clear hb) | (go_at_call 38; (with_reducible refine (monticuleref19_Words.calls 200 As cs tw At ct tw _ _ (Kd.C_below HVS.out (by repeat (first | (with_reducible first | exact Below.refl _ _ | apply below_alloc | apply pw_below_drewN | apply below_drew1) | exact Below.refl _ _))) LS.out (Kd.C_below HVT.out (by repeat (first | (with_reducible first | exact Below.refl _ _ | apply below_alloc | apply pw_below_drewN | apply below_drew1) | exact Below.refl _ _))) LT.out HWR.out).mono ?_); rintro e w' ⟨rfl, ⟨nd, rfl⟩⟩))
            go_ret
            exact ⟨rfl, (by repeat (first | (with_reducible first | exact HC.out | apply below_alloc | apply pw_below_drewN | apply below_drew1) | exact HC.out))⟩
      · have HER := Aside0.mk hz
        have z1 : (ofErr l 50 5000 == 0) = false := by simpa using hz
        have z2 : (ofErr l 50 5000 != 0) = true := by simpa using hz
        clear hz
        go_enter Try.func8, Try.ntmps8
        go_wp2_with (first | (go_at_call 33; (with_reducible refine (awake19 _).mono ?_); rintro e w' ⟨rfl, hb⟩; have n0_ := Aside0.mk (below_step (by repeat (first | (with_reducible first | exact HC.out | apply below_alloc | apply pw_below_drewN | apply below_drew1) | exact HC.out)) hb); clear HC ; have HC := n0_; clear n0_; clear hb) | (go_at_call 13; (with_reducible refine (monticuleref18_Small.calls 100 A0 c0 l _ _ (Kd.C_below HR0.out (by repeat (first | (with_reducible first | exact HC.out | apply below_alloc | apply pw_below_drewN | apply below_drew1) | exact HC.out))) HC0.out HSM.out).mono ?_); rintro e w' ⟨rfl, ⟨nd, rfl⟩⟩) | (go_at_call 14; (with_reducible refine (of_room A0 c0 l 50 5000 _ (Kd.C_below HR0.out (by repeat (first | (with_reducible first | exact HC.out | apply below_alloc | apply pw_below_drewN | apply below_drew1) | exact HC.out))) HC0.out HS.out HW.out HO.out).mono ?_); rintro e w' ⟨hy, hn, hb⟩; obtain rfl := hn HER.out; have n0_ := Aside0.mk (below_step (by repeat (first | (with_reducible first | exact HC.out | apply below_alloc | apply pw_below_drewN | apply below_drew1) | exact HC.out)) hb); clear HC; have HC := n0_; clear n0_ hy hn hb))
        go_ret
        exact ⟨rfl, HC.out⟩
end Go.Proofs.Ytiokegmpooildaa.Hp
