/- CollectWays, walked: it holds on every list of objects, every root and way. -/
import Derived.Test.YtiokegmpooildaaCl
import Derived.Test.YtiokegmpooildaaOj
import Derived.Deep.Cut
namespace Go.Proofs.Ytiokegmpooildaa.Hp
open Go.RowKit Go.Proofs.YtiokegmpooildaaW.PrintWords Go.Proofs.YtiokegmpooildaaW.PrintLast Go.Proofs.YtiokegmpooildaaW.PrintMore Go.Proofs.Ytiokegmpooildaa.PAll
set_option linter.unusedVariables false
set_option linter.unusedSimpArgs false
theorem turn_even (bs : List Bool) {a : Int} (ha : W64 a) : turn1 (movedF (numsF bs 0)) a % 2 = a % 2 := by
  unfold W64 at ha
  unfold turn1
  rw [movedF_nums bs ha.1]
  by_cases h : a % 2 = 0 ∧ rdOf false bs (a / 2) = true
  · rw [if_pos h]
    show (2 * (cntB (bs.take (a / 2).toNat) : Int)) % 2 = a % 2
    omega
  · rw [if_neg h]
    rfl
theorem turn_odd (bs : List Bool) {a : Int} (ha : W64 a) (h : a % 2 ≠ 0) : turn1 (movedF (numsF bs 0)) a = a := by
  unfold W64 at ha
  unfold turn1
  rw [movedF_nums bs ha.1, if_neg (fun h2 => h h2.1)]
  rfl
theorem turn_W (bs : List Bool) (hb : bs.length ≤ 5000) {a : Int} (ha : W64 a) : W64 (turn1 (movedF (numsF bs 0)) a) :=
  turn1_W (movedF_word _ (Nat.le_trans (numsF_length bs 0) hb)) ha
/-- Where a word leads in the heap that is left. -/
theorem way_there {l : List S53} {roots : List Int} {bs : List Bool} (hm : Marked l roots bs) (hW : WordsL l) (hR : ∀ a ∈ roots, W64 a) {a : Int} (ha : W64 a) (hr : thereP l.length a = true → bs.getD (a / 2).toNat false = true) :
    thereP (keptL (movedF (numsF bs 0)) l (numsF bs 0)).length (turn1 (movedF (numsF bs 0)) a) = thereP l.length a ∧
      (0 < l.length → objectL (keptL (movedF (numsF bs 0)) l (numsF bs 0)) (turn1 (movedF (numsF bs 0)) a) = turnO (movedF (numsF bs 0)) (objectL l a)) := by
  have hbl := hm.1
  have hkl : (keptL (movedF (numsF bs 0)) l (numsF bs 0)).length = cntB bs := by unfold keptL; rw [List.length_map]; rfl
  have hcl := cntB_len bs
  have ha' := ha
  unfold W64 at ha'
  cases ht : thereP l.length a with
  | true =>
    have h2 := thereP_in ht
    have hb := hr ht
    have e := turn_at bs ha h2.1 hb
    have hlt := cntB_lt bs (a / 2) (by omega) (by omega) hb
    have hth : thereP (keptL (movedF (numsF bs 0)) l (numsF bs 0)).length (turn1 (movedF (numsF bs 0)) a) = true := by
      rw [hkl, e]
      unfold thereP
      exact decide_eq_true (by omega)
    refine ⟨hth, fun _ => ?_⟩
    unfold objectL
    rw [hth, ht, if_pos rfl, if_pos rfl]
    have hk := kept_at (movedF (numsF bs 0)) l bs hbl (i := a / 2) (by omega) hb
    have e2 : turn1 (movedF (numsF bs 0)) a / 2 = (cntB (bs.take (a / 2).toNat) : Int) := by rw [e]; omega
    unfold rd_T53
    rw [e2, Int.toNat_natCast]
    exact hk
  | false =>
    have hno : turn1 (movedF (numsF bs 0)) a = a := by
      unfold turn1
      rw [movedF_nums bs ha'.1, if_neg ?_]
      · rfl
      · rintro ⟨h1, h2⟩
        have h3 := rdOf_in h2
        have : thereP l.length a = true := by unfold thereP; exact decide_eq_true (by omega)
        rw [ht] at this; cases this
    have hth : thereP (keptL (movedF (numsF bs 0)) l (numsF bs 0)).length (turn1 (movedF (numsF bs 0)) a) = false := by
      rw [hno, hkl]
      cases h4 : thereP (cntB bs) a with
      | false => rfl
      | true =>
        have h5 := thereP_in h4
        have : thereP l.length a = true := by unfold thereP; exact decide_eq_true (by omega)
        rw [ht] at this; cases this
    refine ⟨hth, fun hn => ?_⟩
    unfold objectL
    rw [hth, ht, if_neg (by decide), if_neg (by decide)]
    have h0 : turn1 (movedF (numsF bs 0)) 0 = 0 := by
      have hb := (hm.closed hW hR).1 0 (List.mem_cons_self ..) (by unfold thereP; exact decide_eq_true (by omega))
      rw [turn_at bs (by unfold W64; omega) (by decide) hb]
      rfl
    show (⟨0, [], []⟩ : S53) = ⟨turn1 _ 0, [].map _, []⟩
    rw [h0]
    rfl
theorem rd_map (f : Int → Int) (t : List Int) (q : Int) (h0 : 0 ≤ q) (h1 : q < (t.length : Int)) : rd (t.map f) q = f (rd t q) := by
  unfold rd
  rw [List.getD_eq_getElem?_getD, List.getD_eq_getElem?_getD, List.getElem?_map, List.getElem?_eq_getElem (by omega)]
  rfl
set_option maxHeartbeats 16000000 in
set_option maxRecDepth 100000 in
theorem law_ways (A0 : Option Addr) (c0 : Nat) (l : List S53) (root : Int) (A2 : Option Addr) (c2 : Nat) (way : List Int) (w : World) (hr0 : Kd.C k53 w A0 l.length l) (hc0 : l.length ≤ c0) (hr2 : Kd.C (Kd.int .i64) w A2 way.length way) (hc2 : way.length ≤ c2) (hW : WordsL l) (hroot : W64 root) :
    Calls Try.prog 11 #[.slice A0 l.length c0, .int .u64 root, .slice A2 way.length c2] w fun e w' => e = .returned (.bool true) ∧ Below w.heap.size w w' := by
  have HR0 := Aside0.mk hr0
  have HC0 := Aside0.mk hc0
  have HR2 := Aside0.mk hr2
  have HC2 := Aside0.mk hc2
  have HW := Aside0.mk hW
  have HRT := Aside0.mk hroot
  clear hr0 hc0 hr2 hc2 hW hroot
  have HC := Aside0.mk (Below.refl w.heap.size w)
  cases hsm : smallB l with
  | false =>
    have HSM : Aside0 (monticuleref18_Small.f 100 l = some false) := ⟨by rw [small_val, hsm]⟩
    go_enter Try.func11, Try.ntmps11
    go_wp2_with (first | (go_at_call 33; (with_reducible refine (awake19 _).mono ?_); rintro e w' ⟨rfl, hb⟩; have n0_ := Aside0.mk (below_step (by repeat (first | (with_reducible first | exact HC.out | apply below_alloc | apply pw_below_drewN | apply below_drew1) | exact HC.out)) hb); clear HC ; have HC := n0_; clear n0_; clear hb) | (go_at_call 13; (with_reducible refine (monticuleref18_Small.calls 100 A0 c0 l _ _ (Kd.C_below HR0.out (by repeat (first | (with_reducible first | exact HC.out | apply below_alloc | apply pw_below_drewN | apply below_drew1) | exact HC.out))) HC0.out HSM.out).mono ?_); rintro e w' ⟨rfl, ⟨nd, rfl⟩⟩))
    go_ret
    exact ⟨rfl, HC.out⟩
  | true =>
    have HSM : Aside0 (monticuleref18_Small.f 100 l = some true) := ⟨by rw [small_val, hsm]⟩
    by_cases hlen : (way.length : Int) > 40
    · have d1 : decide ((40 : Int) < (way.length : Int)) = true := decide_eq_true hlen
      go_enter Try.func11, Try.ntmps11
      go_wp2_with (first | (go_at_call 33; (with_reducible refine (awake19 _).mono ?_); rintro e w' ⟨rfl, hb⟩; have n0_ := Aside0.mk (below_step (by repeat (first | (with_reducible first | exact HC.out | apply below_alloc | apply pw_below_drewN | apply below_drew1) | exact HC.out)) hb); clear HC ; have HC := n0_; clear n0_; clear hb) | (go_at_call 13; (with_reducible refine (monticuleref18_Small.calls 100 A0 c0 l _ _ (Kd.C_below HR0.out (by repeat (first | (with_reducible first | exact HC.out | apply below_alloc | apply pw_below_drewN | apply below_drew1) | exact HC.out))) HC0.out HSM.out).mono ?_); rintro e w' ⟨rfl, ⟨nd, rfl⟩⟩))
      go_ret
      exact ⟨rfl, HC.out⟩
    · have d1 : decide ((40 : Int) < (way.length : Int)) = false := decide_eq_false (by omega)
      have HS := Aside0.mk (smallB_L hsm)
      have HSB := Aside0.mk (smallB_in hsm)
      have hl5 : l.length ≤ 40 := HSB.out.1
      have hm : way.length ≤ 40 := by omega
      have HO := Aside0.mk (show roomP 50 5000 by unfold roomP; decide)
      by_cases hz : ofErr l 50 5000 = 0
      · have HER := Aside0.mk hz
        have hne := ofErr_ne hz
        obtain ⟨rs, hrs⟩ : ∃ rs : List Int, [root] = rs := ⟨_, rfl⟩
        have HRS := Aside0.mk hrs
        have HRW := Aside0.mk (show ∀ a ∈ rs, W64 a by rw [← hrs]; intro a ha; rw [List.mem_singleton.1 ha]; exact HRT.out)
        have hrl : rs.length = 1 := by rw [← hrs]; rfl
        obtain ⟨bs, hmk, hmm⟩ := marks_val l rs hl5 (fun x hx => (HSB.out.2 x hx).1) (by omega) HW.out HRW.out
        have HMK := Aside0.mk hmk
        have HMM := Aside0.mk hmm
        have HBL := Aside0.mk hmm.1
        have hbl : bs.length ≤ 40 := by rw [hmm.1]; exact hl5
        have HB5 := Aside0.mk (show bs.length ≤ 5000 by omega)
        have HNE := Aside0.mk hne
        have HN0 := Aside0.mk (List.length_pos_iff.2 hne)
        have HRL := Aside0.mk (show rs.length ≤ 100000 by omega)
        have HKE := Aside0.mk (kept_ofErr hmm HW.out HRW.out hz)
        have HGE := Aside0.mk (show ∀ a ∈ numsF bs 0, 0 ≤ a ∧ a < (l.length : Int) from fun a ha => by have := numsF_ge bs 0 a ha; have := hmm.1; omega)
        have hnl0 : (numsF bs 0).length ≤ 40 := Nat.le_trans (numsF_length bs 0) hbl
        obtain ⟨m, hm_⟩ : ∃ m, movedF (numsF bs 0) = m := ⟨_, rfl⟩
        obtain ⟨kl, hkl⟩ : ∃ kl, keptL (movedF (numsF bs 0)) l (numsF bs 0) = kl := ⟨_, rfl⟩
        obtain ⟨tw, hto⟩ : ∃ tw, rs.map (turn1 (movedF (numsF bs 0))) = tw := ⟨_, rfl⟩
        have HM := Aside0.mk hm_
        have HKL := Aside0.mk hkl
        have HTO := Aside0.mk hto
        have HTW := Aside0.mk (show rd tw 0 = turn1 m root by rw [← hto, ← hrs, ← hm_]; rfl)
        have HTL := Aside0.mk (show tw.length = rs.length by rw [← hto, List.length_map])
        have HKS := Aside0.mk (show SmallL kl by rw [← hkl]; exact keptL_small HS.out (by omega) HGE.out)
        have r1 : ((rs.length : Int) == 1) = true := by rw [hrl]; rfl
        have r2 : ((rs.length : Int) != 1) = false := by rw [hrl]; rfl
        have r3 : ((0 : Int) < (rs.length : Int)) = True := eq_true (by omega)
        have r5 : (0 < rs.length) = True := eq_true (by omega)
        have r6 : decide (0 < rs.length) = true := decide_eq_true (by omega)
        have r7 : ¬ rs.length = 0 := by omega
        have r4 : ((0 : Int) ≤ 0) = True := eq_true (by omega)
        have HWY := Aside0.mk (show ∀ a, W64 a → (thereP l.length a = true → bs.getD (a / 2).toNat false = true) → thereP kl.length (turn1 m a) = thereP l.length a ∧ objectL kl (turn1 m a) = turnO m (objectL l a) from fun a ha hr => by
          have h_ := way_there hmm HW.out HRW.out ha hr
          rw [← hkl, ← hm_]
          exact ⟨h_.1, h_.2 (List.length_pos_iff.2 hne)⟩)
        have HCL := Aside0.mk (hmm.closed HW.out HRW.out)
        have HTWD := Aside0.mk (show ∀ a, W64 a → W64 (turn1 m a) from fun a ha => by rw [← hm_]; exact turn_W bs HB5.out ha)
        have HTEV := Aside0.mk (show ∀ a, W64 a → turn1 m a % 2 = a % 2 from fun a ha => by rw [← hm_]; exact turn_even bs ha)
        have HTOD := Aside0.mk (show ∀ a, W64 a → a % 2 ≠ 0 → turn1 m a = a from fun a ha h_ => by rw [← hm_]; exact turn_odd bs ha h_)
        clear hmk hmm hne hkl hto hrs hnl0 hz hm_ hrl hbl
        go_enter Try.func11, Try.ntmps11
        go_upto_region 9 with (first | (go_at_call 33; (with_reducible refine (awake19 _).mono ?_); rintro e w' ⟨rfl, hb⟩; have n0_ := Aside0.mk (below_step (by repeat (first | (with_reducible first | exact HC.out | apply below_alloc | apply pw_below_drewN | apply below_drew1) | exact HC.out)) hb); clear HC ; have HC := n0_; clear n0_; clear hb) | (go_at_call 13; (with_reducible refine (monticuleref18_Small.calls 100 A0 c0 l _ _ (Kd.C_below HR0.out (by repeat (first | (with_reducible first | exact HC.out | apply below_alloc | apply pw_below_drewN | apply below_drew1) | exact HC.out))) HC0.out HSM.out).mono ?_); rintro e w' ⟨rfl, ⟨nd, rfl⟩⟩) | (go_at_call 14; (with_reducible refine (of_room A0 c0 l 50 5000 _ (Kd.C_below HR0.out (by repeat (first | (with_reducible first | exact HC.out | apply below_alloc | apply pw_below_drewN | apply below_drew1) | exact HC.out))) HC0.out HS.out HW.out HO.out).mono ?_); rintro e w' ⟨hy, hn, hb⟩; obtain ⟨gh, rfl, hg⟩ := hy HER.out; have HH := Aside0.mk hg.reads; clear hg; have n0_ := Aside0.mk (below_step (by repeat (first | (with_reducible first | exact HC.out | apply below_alloc | apply pw_below_drewN | apply below_drew1) | exact HC.out)) hb); clear HC; have HC := n0_; clear n0_ hy hn hb) | ((with_reducible refine gate_dst (N := 45) rfl ?_); refine Kd.R_lit (Kd.int .u64) _ 36 ?hg (N := 45) ?hd (xs := ([root] : List Int)) (inner := [.int .u64 root]) (ok := fun _ => True) (okp := fun _ => True) ?hr ?hp (fun _ hk => hk) trivial (Below.refl _ _) (Nat.le_refl _) (by simp) ?_; (case hd => rfl); (case hg => rfl); (case hr => first | (go_simp; done) | (go_simp; rfl)); (case hp => exact (Reps.one (show Kd.M (Kd.int .u64) _ _ _ root [.int .u64 root] from rfl) (Reps.none _ _))); intro v2 w10 ho2 hb hg_ hnew_; obtain ⟨Ar, cr, e2, hl2, hC2⟩ := Kd.R_reads ho2; rw [HRS.out] at e2 hl2 hC2; subst e2; have LR := Aside0.mk hl2; have n1_ := Aside0.mk (HH.out.below (below_step (by repeat (first | (with_reducible first | exact Below.refl _ _ | apply below_alloc | apply pw_below_drewN | apply below_drew1) | exact Below.refl _ _)) hb)); have n0_ := Aside0.mk (below_step (by repeat (first | (with_reducible first | exact HC.out | apply below_alloc | apply pw_below_drewN | apply below_drew1) | exact HC.out)) hb); have HVR := Aside0.mk hC2; clear HH HC; have HH := n1_; have HC := n0_; clear n0_ n1_ hg_ hnew_ ho2 hb hC2 hl2) | (go_at_call 36; (with_reducible refine (collect_run gh Ar cr rs l 50 5000 _ bs 10000 _ (HH.out.below (by repeat (first | (with_reducible first | exact Below.refl _ _ | apply below_alloc | apply pw_below_drewN | apply below_drew1) | exact Below.refl _ _))) HS.out HW.out HO.out (Kd.C_below HVR.out (by repeat (first | (with_reducible first | exact Below.refl _ _ | apply below_alloc | apply pw_below_drewN | apply below_drew1) | exact Below.refl _ _))) LR.out HRL.out HRW.out HMK.out HBL.out HNE.out HKE.out).mono ?_); rintro e w' ⟨gn, At, ct, rfl, hG, hT, hlt, hb⟩; rw [HKL.out] at hG; rw [HTO.out] at hT; have n0_ := Aside0.mk (below_step (by repeat (first | (with_reducible first | exact HC.out | apply below_alloc | apply pw_below_drewN | apply below_drew1) | exact HC.out)) hb); have n1_ := Aside0.mk (HH.out.below (below_step (by repeat (first | (with_reducible first | exact Below.refl _ _ | apply below_alloc | apply pw_below_drewN | apply below_drew1) | exact Below.refl _ _)) hb)); clear HC HH; have HC := n0_; have HH := n1_; clear n0_ n1_; clear hb; have HG := Aside0.mk hG; clear hG; have HVT := Aside0.mk hT; clear hT; have LT := Aside0.mk hlt; clear hlt))
        obtain ⟨wl, hwl⟩ : ∃ wl : World, wl = w' := ⟨_, rfl⟩
        rw [← hwl] at HC HH HG HVT ⊢
        clear hwl
        obtain ⟨ad, e0, hx0⟩ := Kd.at_int HVT.out 0 (by omega) (of_eq_true r3)
        cases e0
        rw [HTW.out] at hx0
        have hx0' : wl.cell? (ad.add 0) = some (.int .u64 (turn1 m root)) := hx0
        have hx0a : wl.cell? ad = some (.int .u64 (turn1 m root)) := by
          have e_ : ad.add 0 = ad := by cases ad; rfl
          rw [← e_]
          exact hx0'
        go_wp2_with (fail)
        repeat (go_quiet (fail); try go_wp2)
        go_loopg [12, 13, 14] way.length (fun kq v12 v13 v14 w' => ∃ (x a : Int), v14 = .int .i64 x ∧ v12 = .int .u64 a ∧ v13 = .int .u64 (turn1 m a) ∧ 0 ≤ x ∧ x ≤ way.length ∧ Aside0 ((kq : Int) + x = way.length) ∧ Aside0 (W64 a) ∧ Aside0 (thereP l.length a = true → bs.getD (a / 2).toNat false = true) ∧ Aside0 (Below wl.heap.size wl w'))
        case atStart => exact ⟨0, root, rfl, rfl, rfl, by omega, by omega, ⟨by simp⟩, HRT, ⟨fun ht => HCL.out.1 root (List.mem_cons_of_mem _ (by rw [← HRS.out]; exact List.mem_singleton.2 rfl)) ht⟩, ⟨by repeat (first | exact Below.refl _ _ | apply pw_below_drewN | apply below_drew1)⟩⟩
        case round =>
          obtain ⟨x, a, rfl, rfl, rfl, p0, p1, HK, HWA, HRE, HB⟩ := hrel
          obtain ⟨b, hb_⟩ : ∃ b, b = turn1 m a := ⟨_, rfl⟩
          have HWB := Aside0.mk (show W64 b by rw [hb_]; exact HTWD.out a HWA.out)
          have hwy := HWY.out a HWA.out HRE.out
          have HEV := Aside0.mk (HTEV.out a HWA.out)
          have HOD := Aside0.mk (HTOD.out a HWA.out)
          rw [← hb_] at hwy HEV HOD ⊢
          have HBA := Aside0.mk hb_
          clear hb_
          obtain ⟨y, hy⟩ : ∃ y, y = objectL l a := ⟨_, rfl⟩
          rw [← hy] at hwy
          have HYY := Aside0.mk hy
          obtain ⟨f0, f1, f2⟩ := y
          have HY0 := Aside0.mk (show (objectL l a).f0 = f0 by rw [← hy])
          have HY1 := Aside0.mk (show (objectL l a).f1 = f1 by rw [← hy])
          have HY2 := Aside0.mk (show (objectL l a).f2 = f2 by rw [← hy])
          have HZ0 := Aside0.mk (show (objectL kl b).f0 = turn1 m f0 by rw [hwy.2]; rfl)
          have HZ1 := Aside0.mk (show (objectL kl b).f1 = f1.map (turn1 m) by rw [hwy.2]; rfl)
          have HZ2 := Aside0.mk (show (objectL kl b).f2 = f2 by rw [hwy.2]; rfl)
          obtain ⟨t, ht⟩ : ∃ t, t = thereP l.length a := ⟨_, rfl⟩
          have HYT := Aside0.mk ht.symm
          have HZT := Aside0.mk (show thereP kl.length b = t by rw [hwy.1, ht])
          have hwa := HWA.out
          unfold W64 at hwa
          have ra : IntKind.u64.wrap (Int.tmod a 2) = a % 2 := by rw [Int.tmod_eq_emod_of_nonneg hwa.1, u64w]; omega
          have ra2 : Int.tmod a 2 = a % 2 := Int.tmod_eq_emod_of_nonneg hwa.1
          have hwb := HWB.out
          unfold W64 at hwb
          have rb : IntKind.u64.wrap (Int.tmod b 2) = b % 2 := by rw [Int.tmod_eq_emod_of_nonneg hwb.1, u64w]; omega
          have rb2 : Int.tmod b 2 = b % 2 := Int.tmod_eq_emod_of_nonneg hwb.1
          clear hwy hy ht hwa hwb
          by_cases hlt : x < (way.length : Int)
          · have c3b0 : decide (x < (way.length : Int)) = true := decide_eq_true hlt
            go_upto_region 14 with (first | (go_at_call 47; (with_reducible refine (heap_Object gh a l 50 5000 _ _ (HH.out.below (by repeat (first | (with_reducible first | exact HB.out | apply below_alloc | apply pw_below_drewN | apply below_drew1) | exact HB.out))) HS.out HWA.out).mono ?_); rintro e wa ⟨v1, v2, rfl, h1_, h2_, hb⟩; rw [HY1.out] at h1_; rw [HY2.out] at h2_; rw [HY0.out, HYT.out]; obtain ⟨S1, s1, e1_⟩ := Kd.R_slice h1_; subst e1_; obtain ⟨S2, s2, e2_⟩ := Kd.R_slice h2_; subst e2_; have HV1 := Aside0.mk (Kd.R_reads' h1_).2.2; have HV2 := Aside0.mk (Kd.R_reads' h2_).2.2; have n0_ := Aside0.mk (below_step (by repeat (first | (with_reducible first | exact HB.out | apply below_alloc | apply pw_below_drewN | apply below_drew1) | exact HB.out)) hb); clear HB ; have HB := n0_; clear n0_; have HQ := Aside0.mk (Below.refl wa.heap.size wa); clear h1_ h2_ hb) | ((with_reducible refine gate_dst (N := 15) rfl ?_); refine box_event ?hg (N := 15) ?hd (cs := #[.int .u64 0, .slice none 0 0, .slice none 0 0]) (t := 53) ?hr ?_; (case hd => rfl); (case hg => rfl); (case hr => first | (go_simp; done) | (go_simp; rfl)); intro g1 hg wbg1 hbox hb; have n0_ := Aside0.mk (below_step (by repeat (first | (with_reducible first | exact HQ.out | apply below_alloc | apply pw_below_drewN | apply below_drew1) | exact HQ.out)) hb); have n1_ := Aside0.mk (hbox); have n2_ := Aside0.mk (by rw [hg]; exact below_size (by repeat (first | (with_reducible first | exact HQ.out | apply below_alloc | apply pw_below_drewN | apply below_drew1) | exact HQ.out)) : wa.heap.size ≤ g1); clear HQ; have HQ := n0_; have BKg1 := n1_; have GEg1 := n2_; clear n0_ n1_ n2_; clear hb hbox hg; have hzg10 : wbg1.cell? ⟨g1, 0, none⟩ = some (.int .u64 0) := (blk_cell BKg1.out 0).trans rfl; have hfg10 := blk_frozen BKg1.out 0; have hzg11 : wbg1.cell? ⟨g1, 1, none⟩ = some (.slice none 0 0) := (blk_cell BKg1.out 1).trans rfl; have hfg11 := blk_frozen BKg1.out 1; have hzg12 : wbg1.cell? ⟨g1, 2, none⟩ = some (.slice none 0 0) := (blk_cell BKg1.out 2).trans rfl; have hfg12 := blk_frozen BKg1.out 2))
            have n0_ := Aside0.mk (show (((wbg1.setCell ⟨g1, 0, none⟩ (.int .u64 f0)).setCell ⟨g1, 1, none⟩ (.slice S1 f1.length s1)).setCell ⟨g1, 2, none⟩ (.slice S2 f2.length s2)).heap[g1]? = some (.cells #[.int .u64 f0, .slice S1 f1.length s1, .slice S2 f2.length s2] 53 (0, 0)) from blk_put (cs := #[.int .u64 f0, .slice S1 f1.length s1, .slice none 0 0]) (blk_put (cs := #[.int .u64 f0, .slice none 0 0, .slice none 0 0]) (blk_put (cs := #[.int .u64 0, .slice none 0 0, .slice none 0 0]) BKg1.out 0 _ rfl) 1 _ rfl) 2 _ rfl)
            have n1_ := Aside0.mk (show Below wa.heap.size wa (((wbg1.setCell ⟨g1, 0, none⟩ (.int .u64 f0)).setCell ⟨g1, 1, none⟩ (.slice S1 f1.length s1)).setCell ⟨g1, 2, none⟩ (.slice S2 f2.length s2)) from by repeat (first | (with_reducible first | exact HQ.out | refine below_set ?_ GEg1.out) | exact HQ.out))
            have n2_ := Aside0.mk (Kd.C_below HV1.out n1_.out)
            have n3_ := Aside0.mk (Kd.C_below HV2.out n1_.out)
            have n4_ := Aside0.mk (below_step HB.out n1_.out)
            clear HQ HB BKg1 GEg1 HV1 HV2 hzg10 hfg10 hzg11 hfg11 hzg12 hfg12
            generalize hw_ : (((wbg1.setCell ⟨g1, 0, none⟩ (.int .u64 f0)).setCell ⟨g1, 1, none⟩ (.slice S1 f1.length s1)).setCell ⟨g1, 2, none⟩ (.slice S2 f2.length s2)) = W1 at n0_ n1_ n2_ n3_ n4_ ⊢
            clear hw_
            have BKg1 := n0_
            have HV1 := n2_
            have HV2 := n3_
            have HB := n4_
            clear n0_ n1_ n2_ n3_ n4_
            go_upto_region 15 with (first | (go_at_call 47; (with_reducible refine (heap_Object gn b kl 50 5000 _ _ (HG.out.below (by repeat (first | (with_reducible first | exact HB.out | apply below_alloc | apply pw_below_drewN | apply below_drew1) | exact HB.out))) HKS.out HWB.out).mono ?_); rintro e wc ⟨v1, v2, rfl, h1_, h2_, hb⟩; rw [HZ1.out] at h1_; rw [HZ2.out] at h2_; rw [HZ0.out, HZT.out]; obtain ⟨S3, s3, e1_⟩ := Kd.R_slice h1_; rw [List.length_map] at e1_; subst e1_; obtain ⟨S4, s4, e2_⟩ := Kd.R_slice h2_; subst e2_; have HV3 := Aside0.mk (Kd.R_reads' h1_).2.2; have HV4 := Aside0.mk (Kd.R_reads' h2_).2.2; have n0_ := Aside0.mk (below_step (by repeat (first | (with_reducible first | exact HB.out | apply below_alloc | apply pw_below_drewN | apply below_drew1) | exact HB.out)) hb); have n1_ := Aside0.mk (Kd.C_below HV1.out (below_step (by repeat (first | (with_reducible first | exact Below.refl _ _ | apply below_alloc | apply pw_below_drewN | apply below_drew1) | exact Below.refl _ _)) hb)); have n2_ := Aside0.mk (Kd.C_below HV2.out (below_step (by repeat (first | (with_reducible first | exact Below.refl _ _ | apply below_alloc | apply pw_below_drewN | apply below_drew1) | exact Below.refl _ _)) hb)); have n3_ := Aside0.mk (blk_below BKg1.out (below_step (by repeat (first | (with_reducible first | exact Below.refl _ _ | apply below_alloc | apply pw_below_drewN | apply below_drew1) | exact Below.refl _ _)) hb)); clear HB HV1 HV2 BKg1; have HB := n0_; have HV1 := n1_; have HV2 := n2_; have BKg1 := n3_; clear n0_ n1_ n2_ n3_; have HQ := Aside0.mk (Below.refl wc.heap.size wc); clear h1_ h2_ hb) | ((with_reducible refine gate_dst (N := 17) rfl ?_); refine box_event ?hg (N := 17) ?hd (cs := #[.int .u64 0, .slice none 0 0, .slice none 0 0]) (t := 53) ?hr ?_; (case hd => rfl); (case hg => rfl); (case hr => first | (go_simp; done) | (go_simp; rfl)); intro g2 hg wbg2 hbox hb; have n0_ := Aside0.mk (below_step (by repeat (first | (with_reducible first | exact HQ.out | apply below_alloc | apply pw_below_drewN | apply below_drew1) | exact HQ.out)) hb); have n1_ := Aside0.mk (hbox); have n2_ := Aside0.mk (by rw [hg]; exact below_size (by repeat (first | (with_reducible first | exact HQ.out | apply below_alloc | apply pw_below_drewN | apply below_drew1) | exact HQ.out)) : wc.heap.size ≤ g2); clear HQ; have HQ := n0_; have BKg2 := n1_; have GEg2 := n2_; clear n0_ n1_ n2_; clear hb hbox hg; have hzg20 : wbg2.cell? ⟨g2, 0, none⟩ = some (.int .u64 0) := (blk_cell BKg2.out 0).trans rfl; have hfg20 := blk_frozen BKg2.out 0; have hzg21 : wbg2.cell? ⟨g2, 1, none⟩ = some (.slice none 0 0) := (blk_cell BKg2.out 1).trans rfl; have hfg21 := blk_frozen BKg2.out 1; have hzg22 : wbg2.cell? ⟨g2, 2, none⟩ = some (.slice none 0 0) := (blk_cell BKg2.out 2).trans rfl; have hfg22 := blk_frozen BKg2.out 2))
            have n0_ := Aside0.mk (show (((wbg2.setCell ⟨g2, 0, none⟩ (.int .u64 (turn1 m f0))).setCell ⟨g2, 1, none⟩ (.slice S3 f1.length s3)).setCell ⟨g2, 2, none⟩ (.slice S4 f2.length s4)).heap[g2]? = some (.cells #[.int .u64 (turn1 m f0), .slice S3 f1.length s3, .slice S4 f2.length s4] 53 (0, 0)) from blk_put (cs := #[.int .u64 (turn1 m f0), .slice S3 f1.length s3, .slice none 0 0]) (blk_put (cs := #[.int .u64 (turn1 m f0), .slice none 0 0, .slice none 0 0]) (blk_put (cs := #[.int .u64 0, .slice none 0 0, .slice none 0 0]) BKg2.out 0 _ rfl) 1 _ rfl) 2 _ rfl)
            have n1_ := Aside0.mk (show Below wc.heap.size wc (((wbg2.setCell ⟨g2, 0, none⟩ (.int .u64 (turn1 m f0))).setCell ⟨g2, 1, none⟩ (.slice S3 f1.length s3)).setCell ⟨g2, 2, none⟩ (.slice S4 f2.length s4)) from by repeat (first | (with_reducible first | exact HQ.out | refine below_set ?_ GEg2.out) | exact HQ.out))
            have n2_ := Aside0.mk (Kd.C_below HV1.out n1_.out)
            have n3_ := Aside0.mk (Kd.C_below HV2.out n1_.out)
            have n4_ := Aside0.mk (Kd.C_below HV3.out n1_.out)
            have n5_ := Aside0.mk (Kd.C_below HV4.out n1_.out)
            have n6_ := Aside0.mk (blk_below BKg1.out n1_.out)
            have n7_ := Aside0.mk (below_step HB.out n1_.out)
            clear HQ HB BKg2 GEg2 HV1 HV2 HV3 HV4 BKg1 hzg20 hfg20 hzg21 hfg21 hzg22 hfg22
            generalize hw_ : (((wbg2.setCell ⟨g2, 0, none⟩ (.int .u64 (turn1 m f0))).setCell ⟨g2, 1, none⟩ (.slice S3 f1.length s3)).setCell ⟨g2, 2, none⟩ (.slice S4 f2.length s4)) = W2 at n0_ n1_ n2_ n3_ n4_ n5_ n6_ n7_ ⊢
            clear hw_
            have BKg2 := n0_
            have HV1 := n2_
            have HV2 := n3_
            have HV3 := n4_
            have HV4 := n5_
            have BKg1 := n6_
            have HB := n7_
            clear n0_ n1_ n2_ n3_ n4_ n5_ n6_ n7_
            have k10 : W2.cell? ⟨g1, 0, none⟩ = some (.int .u64 f0) := (blk_cell BKg1.out 0).trans rfl
            have k11 : W2.cell? ⟨g1, 1, none⟩ = some (.slice S1 f1.length s1) := (blk_cell BKg1.out 1).trans rfl
            have k12 : W2.cell? ⟨g1, 2, none⟩ = some (.slice S2 f2.length s2) := (blk_cell BKg1.out 2).trans rfl
            have k20 : W2.cell? ⟨g2, 0, none⟩ = some (.int .u64 (turn1 m f0)) := (blk_cell BKg2.out 0).trans rfl
            have k21 : W2.cell? ⟨g2, 1, none⟩ = some (.slice S3 f1.length s3) := (blk_cell BKg2.out 1).trans rfl
            have k22 : W2.cell? ⟨g2, 2, none⟩ = some (.slice S4 f2.length s4) := (blk_cell BKg2.out 2).trans rfl
            clear BKg1 BKg2
            cases t with
            | false =>
              by_cases ho : a % 2 = 0
              · have z0 : (a % 2 == 0) = true := by simpa using ho
                have z1 : (a % 2 == 1) = false := by simp; omega
                go_wp2_with (fail)
                go_ret
                exact ⟨rfl, below_step HC.out HB.out⟩
              · have z0 : (a % 2 == 0) = false := by simpa using ho
                have z1 : (a % 2 == 1) = true := by simp; omega
                obtain rfl : b = a := HOD.out ho
                go_wp2_with (fail)
                go_ret
                exact ⟨rfl, below_step HC.out HB.out⟩
            | true =>
              have hev := (thereP_in HYT.out).1
              have z1 : (a % 2 == 1) = false := by simp; omega
              have hbs := HRE.out HYT.out
              have hal := there_lt HWA.out HYT.out
              have hob : (⟨f0, f1, f2⟩ : S53) = l.getD (a / 2).toNat z53 := by
                rw [HYY.out]
                unfold objectL
                rw [HYT.out, if_pos rfl]
                rfl
              have hww := wordsO_W HW.out hal
              have hcl := HCL.out.2 (a / 2).toNat hal hbs
              rw [← hob] at hww hcl
              have HWW := Aside0.mk hww
              have HCW := Aside0.mk hcl
              obtain ⟨adw, ew, hqw⟩ := Kd.at_int HR2.out x p0 hlt
              cases ew
              replace hqw := ((below_step HC.out HB.out).cell (World.block_lt_of_cell? w _ hqw)).trans hqw
              have p0' : (0 ≤ x) = True := eq_true p0
              have p1' : (x < (way.length : Int)) = True := eq_true hlt
              obtain ⟨q, hq_⟩ : ∃ q, q = rd way x := ⟨_, rfl⟩
              rw [← hq_] at hqw
              clear hq_ hev hbs hal hob hww hcl
              by_cases hqi : 0 ≤ q ∧ q < (f1.length : Int)
              · have d1 : decide (q < 0) = false := decide_eq_false (by omega)
                have d2 : decide ((f1.length : Int) ≤ q) = false := decide_eq_false (by omega)
                have q0' : (0 ≤ q) = True := eq_true hqi.1
                have q1' : (q < (f1.length : Int)) = True := eq_true hqi.2
                obtain ⟨ad1, e1_, hc1⟩ := Kd.at_int HV1.out q hqi.1 hqi.2
                cases e1_
                have h3_ := HV3.out
                rw [List.length_map] at h3_
                obtain ⟨ad3, e3_, hc3⟩ := Kd.at_int h3_ q hqi.1 hqi.2
                cases e3_
                rw [rd_map _ _ _ hqi.1 hqi.2] at hc3
                have HMQ := Aside0.mk (show rd f1 q ∈ f1 from rd_mem hqi.1 hqi.2)
                clear h3_
                go_wp2_with (first | ((with_reducible refine gate_dst (N := 112) rfl ?_); (refine gate_guard (by rfl) ?_); dsimp only; refine str_event rfl 51 9 5 _ rfl Try.underlying51 Try.underlying5 Try.underlying9 S2 f2.length s2 f2 rfl HV2.out ?_) | ((with_reducible refine gate_dst (N := 115) rfl ?_); (refine gate_guard (by rfl) ?_); dsimp only; refine str_event rfl 51 9 5 _ rfl Try.underlying51 Try.underlying5 Try.underlying9 S4 f2.length s4 f2 rfl HV4.out ?_))
                repeat (go_quiet (fail); try go_wp2)
                go_roundg (gk - 1)
                case measure => have := HK.out; omega
                case rel => exact ⟨x + 1, rd f1 q, (by first | rfl | go_num), rfl, rfl, by omega, by omega, ⟨by have := HK.out; omega⟩, ⟨HWW.out _ (List.mem_cons_of_mem _ HMQ.out)⟩, ⟨fun ht => HCW.out _ (List.mem_cons_of_mem _ HMQ.out) ht⟩, ⟨(by repeat (first | (with_reducible first | exact HB.out | apply below_alloc | apply pw_below_drewN | apply below_drew1) | exact HB.out))⟩⟩
              · by_cases hqn : q < 0
                · have d1 : decide (q < 0) = true := decide_eq_true hqn
                  go_wp2_with (first | ((with_reducible refine gate_dst (N := 112) rfl ?_); (refine gate_guard (by rfl) ?_); dsimp only; refine str_event rfl 51 9 5 _ rfl Try.underlying51 Try.underlying5 Try.underlying9 S2 f2.length s2 f2 rfl HV2.out ?_) | ((with_reducible refine gate_dst (N := 115) rfl ?_); (refine gate_guard (by rfl) ?_); dsimp only; refine str_event rfl 51 9 5 _ rfl Try.underlying51 Try.underlying5 Try.underlying9 S4 f2.length s4 f2 rfl HV4.out ?_))
                  repeat (go_quiet (fail); try go_wp2)
                  go_roundg (gk - 1)
                  case measure => have := HK.out; omega
                  case rel => exact ⟨x + 1, f0, (by first | rfl | go_num), rfl, rfl, by omega, by omega, ⟨by have := HK.out; omega⟩, ⟨HWW.out _ (List.mem_cons_self ..)⟩, ⟨fun ht => HCW.out _ (List.mem_cons_self ..) ht⟩, ⟨(by repeat (first | (with_reducible first | exact HB.out | apply below_alloc | apply pw_below_drewN | apply below_drew1) | exact HB.out))⟩⟩
                · have d1 : decide (q < 0) = false := decide_eq_false hqn
                  have d2 : decide ((f1.length : Int) ≤ q) = true := decide_eq_true (by omega)
                  go_wp2_with (first | ((with_reducible refine gate_dst (N := 112) rfl ?_); (refine gate_guard (by rfl) ?_); dsimp only; refine str_event rfl 51 9 5 _ rfl Try.underlying51 Try.underlying5 Try.underlying9 S2 f2.length s2 f2 rfl HV2.out ?_) | ((with_reducible refine gate_dst (N := 115) rfl ?_); (refine gate_guard (by rfl) ?_); dsimp only; refine str_event rfl 51 9 5 _ rfl Try.underlying51 Try.underlying5 Try.underlying9 S4 f2.length s4 f2 rfl HV4.out ?_))
                  repeat (go_quiet (fail); try go_wp2)
                  go_roundg (gk - 1)
                  case measure => have := HK.out; omega
                  case rel => exact ⟨x + 1, f0, (by first | rfl | go_num), rfl, rfl, by omega, by omega, ⟨by have := HK.out; omega⟩, ⟨HWW.out _ (List.mem_cons_self ..)⟩, ⟨fun ht => HCW.out _ (List.mem_cons_self ..) ht⟩, ⟨(by repeat (first | (with_reducible first | exact HB.out | apply below_alloc | apply pw_below_drewN | apply below_drew1) | exact HB.out))⟩⟩
          · have c3b0 : decide (x < (way.length : Int)) = false := decide_eq_false hlt
            have hq_ : (a % 2 == b % 2) = true := by rw [HEV.out]; exact beq_self_eq_true _
            go_wp2_with (fail)
            go_ret
            exact ⟨rfl, below_step HC.out HB.out⟩
      · have HER := Aside0.mk hz
        have z1 : (ofErr l 50 5000 == 0) = false := by simpa using hz
        have z2 : (ofErr l 50 5000 != 0) = true := by simpa using hz
        clear hz
        go_enter Try.func11, Try.ntmps11
        go_wp2_with (first | (go_at_call 33; (with_reducible refine (awake19 _).mono ?_); rintro e w' ⟨rfl, hb⟩; have n0_ := Aside0.mk (below_step (by repeat (first | (with_reducible first | exact HC.out | apply below_alloc | apply pw_below_drewN | apply below_drew1) | exact HC.out)) hb); clear HC ; have HC := n0_; clear n0_; clear hb) | (go_at_call 13; (with_reducible refine (monticuleref18_Small.calls 100 A0 c0 l _ _ (Kd.C_below HR0.out (by repeat (first | (with_reducible first | exact HC.out | apply below_alloc | apply pw_below_drewN | apply below_drew1) | exact HC.out))) HC0.out HSM.out).mono ?_); rintro e w' ⟨rfl, ⟨nd, rfl⟩⟩) | (go_at_call 14; (with_reducible refine (of_room A0 c0 l 50 5000 _ (Kd.C_below HR0.out (by repeat (first | (with_reducible first | exact HC.out | apply below_alloc | apply pw_below_drewN | apply below_drew1) | exact HC.out))) HC0.out HS.out HW.out HO.out).mono ?_); rintro e w' ⟨hy, hn, hb⟩; obtain rfl := hn HER.out; have n0_ := Aside0.mk (below_step (by repeat (first | (with_reducible first | exact HC.out | apply below_alloc | apply pw_below_drewN | apply below_drew1) | exact HC.out)) hb); clear HC; have HC := n0_; clear n0_ hy hn hb))
        go_ret
        exact ⟨rfl, HC.out⟩
end Go.Proofs.Ytiokegmpooildaa.Hp
