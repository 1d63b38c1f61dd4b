/- CollectMore, walked: it holds on every list of objects and of roots. -/
import Derived.Test.YtiokegmpooildaaCu
import Derived.Deep.Cut
namespace Go.Proofs.Ytiokegmpooildaa.Hp
open Go.RowKit Go.Proofs.YtiokegmpooildaaW.PrintWords Go.Proofs.YtiokegmpooildaaW.PrintLast Go.Proofs.YtiokegmpooildaaW.PrintMore Go.Proofs.Ytiokegmpooildaa.PAll
set_option linter.unusedVariables false
set_option linter.unusedSimpArgs false
theorem grown_put (W : World) (g j : Nat) (u : Value) : W.grownBy (W.setCell ⟨g, j, none⟩ u) (some g) := ⟨rfl, rfl, rfl, by simp [World.setCell], fun k hk hne => Below.heap_setCell _ _ _ _ (fun e => hne (by rw [e]))⟩
theorem arr_next (t : List Int) (k : Int) (h0 : 0 ≤ k) : (fun j : Nat => if j = k.toNat then true else decide ((j : Int) ∈ t)) = fun j : Nat => decide ((j : Int) ∈ t ++ [k]) := by
  funext j
  by_cases e : j = k.toNat
  · rw [if_pos e]
    refine (decide_eq_true (List.mem_append_right _ (List.mem_singleton.2 ?_))).symm
    omega
  · rw [if_neg e]
    have h : ((j : Int) ∈ t ++ [k]) ↔ (j : Int) ∈ t := by
      rw [List.mem_append, List.mem_singleton]
      exact ⟨fun h => h.elim id (fun h => absurd h (by omega)), Or.inl⟩
    simp only [h]
theorem cntB_next2 (bs : List Bool) (x : Int) (h0 : 0 ≤ x) : cntB (bs.take (x + 1).toNat) = if rdOf false bs x = true then cntB (bs.take x.toNat) + 1 else cntB (bs.take x.toNat) := by
  by_cases h : x < (bs.length : Int)
  · exact cntB_next bs x h0 h
  · rw [if_neg (fun hb => by have := rdOf_in hb; omega), List.take_of_length_le (by omega), List.take_of_length_le (by omega)]
set_option maxHeartbeats 16000000 in
set_option maxRecDepth 100000 in
theorem law_more (A0 : Option Addr) (c0 : Nat) (l : List S53) (A1 : Option Addr) (c1 : Nat) (ra : List Int) (A2 : Option Addr) (c2 : Nat) (rb : List Int) (w : World) (hr0 : Kd.C k53 w A0 l.length l) (hc0 : l.length ≤ c0) (hr1 : Kd.C (Kd.int .u64) w A1 ra.length ra) (hc1 : ra.length ≤ c1) (hr2 : Kd.C (Kd.int .u64) w A2 rb.length rb) (hc2 : rb.length ≤ c2) (hW : WordsL l) (hp1 : ∀ a ∈ ra, W64 a) (hp2 : ∀ a ∈ rb, W64 a) :
    Calls Try.prog 9 #[.slice A0 l.length c0, .slice A1 ra.length c1, .slice A2 rb.length c2] w fun e w' => e = .returned (.bool true) ∧ Below w.heap.size w w' := by
  have HR0 := Aside0.mk hr0
  have HC0 := Aside0.mk hc0
  have HR1 := Aside0.mk hr1
  have HC1 := Aside0.mk hc1
  have HR2 := Aside0.mk hr2
  have HC2 := Aside0.mk hc2
  have HW := Aside0.mk hW
  have HRW1 := Aside0.mk hp1
  have HRW2 := Aside0.mk hp2
  clear hr0 hc0 hr1 hc1 hr2 hc2 hW hp1 hp2
  have HC := Aside0.mk (Below.refl w.heap.size w)
  cases hsm : smallB l with
  | false =>
    have HSM : Aside0 (monticuleref18_Small.f 100 l = some false) := ⟨by rw [small_val, hsm]⟩
    go_enter Try.func9, Try.ntmps9
    go_wp2_with (first | (go_at_call 33; (with_reducible refine (awake19 _).mono ?_); rintro e w' ⟨rfl, hb⟩; have n0_ := Aside0.mk (below_step (by repeat (first | (with_reducible first | exact HC.out | apply below_alloc | apply pw_below_drewN | apply below_drew1) | exact HC.out)) hb); clear HC ; have HC := n0_; clear n0_; clear hb) | (go_at_call 13; (with_reducible refine (monticuleref18_Small.calls 100 A0 c0 l _ _ (Kd.C_below HR0.out (by repeat (first | (with_reducible first | exact HC.out | apply below_alloc | apply pw_below_drewN | apply below_drew1) | exact HC.out))) HC0.out HSM.out).mono ?_); rintro e w' ⟨rfl, ⟨nd, rfl⟩⟩))
    go_ret
    exact ⟨rfl, HC.out⟩
  | true =>
    have HSM : Aside0 (monticuleref18_Small.f 100 l = some true) := ⟨by rw [small_val, hsm]⟩
    by_cases hlen : (ra.length : Int) > 20
    · have d1 : decide ((20 : Int) < (ra.length : Int)) = true := decide_eq_true hlen
      go_enter Try.func9, Try.ntmps9
      go_wp2_with (first | (go_at_call 33; (with_reducible refine (awake19 _).mono ?_); rintro e w' ⟨rfl, hb⟩; have n0_ := Aside0.mk (below_step (by repeat (first | (with_reducible first | exact HC.out | apply below_alloc | apply pw_below_drewN | apply below_drew1) | exact HC.out)) hb); clear HC ; have HC := n0_; clear n0_; clear hb) | (go_at_call 13; (with_reducible refine (monticuleref18_Small.calls 100 A0 c0 l _ _ (Kd.C_below HR0.out (by repeat (first | (with_reducible first | exact HC.out | apply below_alloc | apply pw_below_drewN | apply below_drew1) | exact HC.out))) HC0.out HSM.out).mono ?_); rintro e w' ⟨rfl, ⟨nd, rfl⟩⟩))
      go_ret
      exact ⟨rfl, HC.out⟩
    · have d1 : decide ((20 : Int) < (ra.length : Int)) = false := decide_eq_false (by omega)
      by_cases hlen2 : (rb.length : Int) > 20
      · have d2 : decide ((20 : Int) < (rb.length : Int)) = true := decide_eq_true hlen2
        go_enter Try.func9, Try.ntmps9
        go_wp2_with (first | (go_at_call 33; (with_reducible refine (awake19 _).mono ?_); rintro e w' ⟨rfl, hb⟩; have n0_ := Aside0.mk (below_step (by repeat (first | (with_reducible first | exact HC.out | apply below_alloc | apply pw_below_drewN | apply below_drew1) | exact HC.out)) hb); clear HC ; have HC := n0_; clear n0_; clear hb) | (go_at_call 13; (with_reducible refine (monticuleref18_Small.calls 100 A0 c0 l _ _ (Kd.C_below HR0.out (by repeat (first | (with_reducible first | exact HC.out | apply below_alloc | apply pw_below_drewN | apply below_drew1) | exact HC.out))) HC0.out HSM.out).mono ?_); rintro e w' ⟨rfl, ⟨nd, rfl⟩⟩))
        go_ret
        exact ⟨rfl, HC.out⟩
      have d2 : decide ((20 : Int) < (rb.length : Int)) = false := decide_eq_false (by omega)
      have HS := Aside0.mk (smallB_L hsm)
      have HSB := Aside0.mk (smallB_in hsm)
      have hl5 : l.length ≤ 40 := HSB.out.1
      have hm1 : ra.length ≤ 20 := by omega
      have hm2 : rb.length ≤ 20 := by omega
      have HO := Aside0.mk (show roomP 50 5000 by unfold roomP; decide)
      by_cases hz : ofErr l 50 5000 = 0
      · have HER := Aside0.mk hz
        have hq : ∀ x ∈ l, x.f1.length ≤ 60 := fun x hx => (HSB.out.2 x hx).1
        obtain ⟨b1, hmk1, hmm1⟩ := marks_val l ra hl5 hq (by omega) HW.out HRW1.out
        obtain ⟨b2, hmk2, hmm2⟩ := marks_val l rb hl5 hq (by omega) HW.out HRW2.out
        obtain ⟨b3, hmk3, hmm3⟩ := marks_val l (ra ++ rb) hl5 hq (by rw [List.length_append]; omega) HW.out (fun a ha => (List.mem_append.1 ha).elim (HRW1.out a) (HRW2.out a))
        obtain ⟨rc, hrc⟩ : ∃ rc, [] ++ ra ++ rb = rc := ⟨_, rfl⟩
        have HRC := Aside0.mk hrc
        obtain ⟨n1, hn1⟩ : ∃ n, numsF b1 0 = n := ⟨_, rfl⟩
        obtain ⟨n2, hn2⟩ : ∃ n, numsF b2 0 = n := ⟨_, rfl⟩
        obtain ⟨n3, hn3⟩ : ∃ n, numsF b3 0 = n := ⟨_, rfl⟩
        obtain ⟨bo, hbo⟩ : ∃ bo, [] ++ n1 ++ n2 = bo := ⟨_, rfl⟩
        have HBO := Aside0.mk hbo
        have HMK1 := Aside0.mk hmk1
        have HMK2 := Aside0.mk hmk2
        have HMK3 := Aside0.mk (show collect_marks.f 10000 l rc = some b3 by rw [← hrc]; exact hmk3)
        have HB5b1 := Aside0.mk (show b1.length ≤ 5000 by rw [hmm1.1]; omega)
        have HB5b2 := Aside0.mk (show b2.length ≤ 5000 by rw [hmm2.1]; omega)
        have HB5b3 := Aside0.mk (show b3.length ≤ 5000 by rw [hmm3.1]; omega)
        have HNSb1 := Aside0.mk hn1
        have HNSb2 := Aside0.mk hn2
        have HNSb3 := Aside0.mk hn3
        have HB40 := Aside0.mk (show b3.length ≤ 40 by rw [hmm3.1]; omega)
        have hl1 : n1.length ≤ 40 := by rw [← hn1]; exact Nat.le_trans (numsF_length b1 0) (by rw [hmm1.1]; omega)
        have hl2 : n2.length ≤ 40 := by rw [← hn2]; exact Nat.le_trans (numsF_length b2 0) (by rw [hmm2.1]; omega)
        have HGE := Aside0.mk (show ∀ a ∈ bo, 0 ≤ a ∧ a < 50 from fun a ha => by
          rw [← hbo, List.nil_append, ← hn1, ← hn2] at ha
          rcases List.mem_append.1 ha with ha | ha
          · have := numsF_ge b1 0 a ha; have := hmm1.1; omega
          · have := numsF_ge b2 0 a ha; have := hmm2.1; omega)
        have HME := Aside0.mk (show ∀ i : Int, 0 ≤ i → (i ∈ bo ↔ rdOf false b3 i = true) from fun i h0 => by rw [← hbo, List.nil_append, ← hn1, ← hn2]; exact both_mem hmm1 hmm2 hmm3 i h0)
        have hbl : bo.length ≤ 80 := by rw [← hbo, List.nil_append, List.length_append]; omega
        clear hmk1 hmk2 hmk3 hmm1 hmm2 hmm3 hq hrc hn1 hn2 hn3 hbo hz
        go_enter Try.func9, Try.ntmps9
        go_wp2_with (first | (go_at_call 33; (with_reducible refine (awake19 _).mono ?_); rintro e w' ⟨rfl, hb⟩; have n0_ := Aside0.mk (below_step (by repeat (first | (with_reducible first | exact HC.out | apply below_alloc | apply pw_below_drewN | apply below_drew1) | exact HC.out)) hb); clear HC ; have HC := n0_; clear n0_; clear hb) | (go_at_call 13; (with_reducible refine (monticuleref18_Small.calls 100 A0 c0 l _ _ (Kd.C_below HR0.out (by repeat (first | (with_reducible first | exact HC.out | apply below_alloc | apply pw_below_drewN | apply below_drew1) | exact HC.out))) HC0.out HSM.out).mono ?_); rintro e w' ⟨rfl, ⟨nd, rfl⟩⟩) | (go_at_call 14; (with_reducible refine (of_room A0 c0 l 50 5000 _ (Kd.C_below HR0.out (by repeat (first | (with_reducible first | exact HC.out | apply below_alloc | apply pw_below_drewN | apply below_drew1) | exact HC.out))) HC0.out HS.out HW.out HO.out).mono ?_); rintro e w' ⟨hy, hn, hb⟩; obtain ⟨gh, rfl, hg⟩ := hy HER.out; have HH := Aside0.mk hg.reads; clear hg; have n0_ := Aside0.mk (below_step (by repeat (first | (with_reducible first | exact HC.out | apply below_alloc | apply pw_below_drewN | apply below_drew1) | exact HC.out)) hb); clear HC; have HC := n0_; clear n0_ hy hn hb) | (go_at_call 35; (with_reducible refine (collect_reached gh Ac cc rc l 50 5000 _ b3 10000 _ (HH.out.below (by repeat (first | (with_reducible first | exact HQ.out | apply below_alloc | apply pw_below_drewN | apply below_drew1) | exact HQ.out))) HS.out (Kd.C_below HVC.out (by repeat (first | (with_reducible first | exact Below.refl _ _ | apply below_alloc | apply pw_below_drewN | apply below_drew1) | exact Below.refl _ _))) LC.out HMK3.out HB5b3.out).mono ?_); rintro e wz ⟨v, rfl, hS, hb⟩; rw [HNSb3.out] at hS; obtain ⟨AZ, cZ, rfl, hlZ, hCZ⟩ := Kd.R_reads hS; clear hS; have n1_ := Aside0.mk (below_step (by repeat (first | (with_reducible first | exact HQ.out | apply below_alloc | apply pw_below_drewN | apply below_drew1) | exact HQ.out)) hb); have n2_ := Aside0.mk (below_step HC.out n1_.out); have n3_ := Aside0.mk (Kd.C_below HVX.out n1_.out); have n4_ := Aside0.mk (Kd.C_below HVY.out n1_.out); have LZ := Aside0.mk hlZ; have HVZ := Aside0.mk hCZ; clear HC HVX HVY HQ HH HVC LC hlZ hCZ hb; have HC := n2_; have HVX := n3_; have HVY := n4_; clear n1_ n2_ n3_ n4_) | (go_at_call 35; (with_reducible refine (collect_reached gh A2 c2 rb l 50 5000 _ b2 10000 _ (HH.out.below (by repeat (first | (with_reducible first | exact Below.refl _ _ | apply below_alloc | apply pw_below_drewN | apply below_drew1) | exact Below.refl _ _))) HS.out (Kd.C_below HR2.out (by repeat (first | (with_reducible first | exact HC.out | apply below_alloc | apply pw_below_drewN | apply below_drew1) | exact HC.out))) HC2.out HMK2.out HB5b2.out).mono ?_); rintro e wq ⟨v, rfl, hS, hb⟩; rw [HNSb2.out] at hS; obtain ⟨AY, cY, rfl, hlY, hCY⟩ := Kd.R_reads hS; clear hS; have n0_ := Aside0.mk (below_step (by repeat (first | (with_reducible first | exact HC.out | apply below_alloc | apply pw_below_drewN | apply below_drew1) | exact HC.out)) hb); have n1_ := Aside0.mk (HH.out.below (below_step (by repeat (first | (with_reducible first | exact Below.refl _ _ | apply below_alloc | apply pw_below_drewN | apply below_drew1) | exact Below.refl _ _)) hb)); have n2_ := Aside0.mk (Kd.C_below HVX.out (below_step (by repeat (first | (with_reducible first | exact Below.refl _ _ | apply below_alloc | apply pw_below_drewN | apply below_drew1) | exact Below.refl _ _)) hb)); clear HC HH HVX; have HC := n0_; have HH := n1_; have HVX := n2_; clear n0_ n1_ n2_; clear hb; have LY := Aside0.mk hlY; have HVY := Aside0.mk hCY; clear hlY hCY; have HQ := Aside0.mk (Below.refl wq.heap.size wq)) | (go_at_call 35; (with_reducible refine (collect_reached gh A1 c1 ra l 50 5000 _ b1 10000 _ (HH.out.below (by repeat (first | (with_reducible first | exact Below.refl _ _ | apply below_alloc | apply pw_below_drewN | apply below_drew1) | exact Below.refl _ _))) HS.out (Kd.C_below HR1.out (by repeat (first | (with_reducible first | exact HC.out | apply below_alloc | apply pw_below_drewN | apply below_drew1) | exact HC.out))) HC1.out HMK1.out HB5b1.out).mono ?_); rintro e w' ⟨v, rfl, hS, hb⟩; rw [HNSb1.out] at hS; obtain ⟨AX, cX, rfl, hlX, hCX⟩ := Kd.R_reads hS; clear hS; have n0_ := Aside0.mk (below_step (by repeat (first | (with_reducible first | exact HC.out | apply below_alloc | apply pw_below_drewN | apply below_drew1) | exact HC.out)) hb); have n1_ := Aside0.mk (HH.out.below (below_step (by repeat (first | (with_reducible first | exact Below.refl _ _ | apply below_alloc | apply pw_below_drewN | apply below_drew1) | exact Below.refl _ _)) hb)); clear HC HH; have HC := n0_; have HH := n1_; clear n0_ n1_; clear hb; have LX := Aside0.mk hlX; have HVX := Aside0.mk hCX; clear hlX hCX) | ((with_reducible refine gate_dst (N := 51) rfl ?_); refine Kd.R_lit (Kd.int .u64) _ 36 ?hg (N := 51) ?hd (xs := ([] : List Int)) (inner := []) (ok := fun _ => True) (okp := fun _ => True) ?hr ?hp (fun _ hk => hk) trivial (Below.refl _ _) (Nat.le_refl _) (by simp) ?_; (case hd => rfl); (case hg => rfl); (case hr => first | (go_simp; done) | (go_simp; rfl)); (case hp => exact Reps.none _ _); intro v51 wlt ho hb hg_ hnew_; have HO51 := Aside0.mk (Kd.R_lower ho (below_size (by repeat (first | (with_reducible first | exact HQ.out | apply below_alloc | apply pw_below_drewN | apply below_drew1) | exact HQ.out)))); have n0_ := Aside0.mk (below_step (by repeat (first | (with_reducible first | exact HQ.out | apply below_alloc | apply pw_below_drewN | apply below_drew1) | exact HQ.out)) hb); clear HQ; have HQ := n0_; clear n0_ hb; clear hg_ hnew_ ho) | ((with_reducible refine gate_builtin (b := .append) (xs := #[.tmp 51, .tmp 52]) rfl ?_); at_builtin; refine Kd.R_append_rows (Kd.int .u64) (w0 := wq) wq.heap.size rfl (.tmp 51) (.tmp 52) 50 36 (.int .u64 0) 8 rfl Try.underlying50 info36_ rfl (by decide) (by omega) v51 [] ra _ _ _ (fun _ => True) (fun _ => False) rfl rfl ?aO ?aR (fun _ _ h => h) (fun _ h => h.elim) ?aF ?aB ?aS ?aL ?_; (case aO => exact (by (with_reducible repeat (first | apply Kd.R_alloc | apply Kd.R_drewN | apply Kd.R_drew)); exact HO51.out)); (case aR => exact (Kd.C_below HR1.out (below_step HC.out (by repeat (first | (with_reducible first | exact HQ.out | apply below_alloc | apply pw_below_drewN | apply below_drew1) | exact HQ.out))))); (case aF => exact (fun _ _ => trivial)); (case aB => exact (by repeat (first | (with_reducible first | exact HQ.out | apply below_alloc | apply pw_below_drewN | apply below_drew1) | exact HQ.out))); (case aS => exact (below_size (by repeat (first | (with_reducible first | exact HQ.out | apply below_alloc | apply pw_below_drewN | apply below_drew1) | exact HQ.out)))); (case aL => simp only [List.length_nil, List.nil_append]; omega); intro v53 w9 ho hb hg hat; have n0_ := Aside0.mk hb; clear HQ; have HQ := n0_; have HO53 := Aside0.mk ho; clear n0_ ho hb hg hat) | ((with_reducible refine gate_builtin (b := .append) (xs := #[.tmp 53, .tmp 54]) rfl ?_); at_builtin; refine Kd.R_append_rows (Kd.int .u64) (w0 := wq) wq.heap.size rfl (.tmp 53) (.tmp 54) 50 36 (.int .u64 0) 8 rfl Try.underlying50 info36_ rfl (by decide) (by omega) v53 ([] ++ ra) rb _ _ _ (fun _ => True) (fun _ => False) rfl rfl ?aO ?aR (fun _ _ h => h) (fun _ h => h.elim) ?aF ?aB ?aS ?aL ?_; (case aO => exact (by (with_reducible repeat (first | apply Kd.R_alloc | apply Kd.R_drewN | apply Kd.R_drew)); exact HO53.out)); (case aR => exact (Kd.C_below HR2.out (below_step HC.out (by repeat (first | (with_reducible first | exact HQ.out | apply below_alloc | apply pw_below_drewN | apply below_drew1) | exact HQ.out))))); (case aF => exact (fun _ _ => trivial)); (case aB => exact (by repeat (first | (with_reducible first | exact HQ.out | apply below_alloc | apply pw_below_drewN | apply below_drew1) | exact HQ.out))); (case aS => exact (below_size (by repeat (first | (with_reducible first | exact HQ.out | apply below_alloc | apply pw_below_drewN | apply below_drew1) | exact HQ.out)))); (case aL => simp only [List.length_nil, List.nil_append]; omega); intro v55 w9 ho hb hg hat; have n0_ := Aside0.mk hb; clear HQ; have HQ := n0_; have HO55 := Aside0.mk ho; clear n0_ ho hb hg hat; obtain ⟨Ac, cc, ec, hlc, hCc⟩ := Kd.R_reads HO55.out; rw [HRC.out] at ec hlc hCc; subst ec; have LC := Aside0.mk hlc; have HVC := Aside0.mk hCc; clear hlc hCc HO51 HO53 HO55) | ((with_reducible refine gate_dst (N := 12) rfl ?_); refine box_event ?hg (N := 12) ?hd (cs := arrB (fun _ => false)) (t := 78) ?hr ?_; (case hd => rfl); (case hg => rfl); (case hr => first | (go_simp; done) | (go_simp; rfl)); intro gb hg wbx hbox hb; have GB := Aside0.mk (show wz.heap.size ≤ gb from by rw [hg]; exact Nat.le_refl _); have BK := Aside0.mk hbox; have HQ := Aside0.mk (show Below wz.heap.size wz wbx from hb); clear hbox hb hg) | ((with_reducible refine gate_dst (N := 57) rfl ?_); refine Kd.R_lit (Kd.int .i64) _ 3 ?hg (N := 57) ?hd (xs := ([] : List Int)) (inner := []) (ok := fun _ => True) (okp := fun _ => True) ?hr ?hp (fun _ hk => hk) trivial (Below.refl _ _) (Nat.le_refl _) (by simp) ?_; (case hd => rfl); (case hg => rfl); (case hr => first | (go_simp; done) | (go_simp; rfl)); (case hp => exact Reps.none _ _); intro v57 wlt ho hb hg_ hnew_; have HO57 := Aside0.mk (Kd.R_lower ho (below_size (by repeat (first | (with_reducible first | exact HQ.out | apply below_alloc | apply pw_below_drewN | apply below_drew1) | exact HQ.out)))); have n0_ := Aside0.mk (below_step (by repeat (first | (with_reducible first | exact HQ.out | apply below_alloc | apply pw_below_drewN | apply below_drew1) | exact HQ.out)) hb); have nb_ := Aside0.mk (blk_below BK.out hb); clear HQ BK; have HQ := n0_; have BK := nb_; clear n0_ nb_ hb; clear hg_ hnew_ ho) | ((with_reducible refine gate_builtin (b := .append) (xs := #[.tmp 57, .tmp 58]) rfl ?_); at_builtin; refine Kd.R_append_rows (Kd.int .i64) (w0 := wz) wz.heap.size rfl (.tmp 57) (.tmp 58) 65 3 (.int .i64 0) 8 rfl Try.underlying65 info3_ rfl (by decide) (by omega) v57 [] n1 _ _ _ (fun _ => True) (fun _ => False) rfl rfl ?aO ?aR (fun _ _ h => h) (fun _ h => h.elim) ?aF ?aB ?aS ?aL ?_; (case aO => exact (by (with_reducible repeat (first | apply Kd.R_alloc | apply Kd.R_drewN | apply Kd.R_drew)); exact HO57.out)); (case aR => exact (Kd.C_below HVX.out (by repeat (first | (with_reducible first | exact HQ.out | apply below_alloc | apply pw_below_drewN | apply below_drew1) | exact HQ.out)))); (case aF => exact (fun _ _ => trivial)); (case aB => exact (by repeat (first | (with_reducible first | exact HQ.out | apply below_alloc | apply pw_below_drewN | apply below_drew1) | exact HQ.out))); (case aS => exact (below_size (by repeat (first | (with_reducible first | exact HQ.out | apply below_alloc | apply pw_below_drewN | apply below_drew1) | exact HQ.out)))); (case aL => simp only [List.length_nil, List.nil_append]; omega); intro v59 w9 ho hb hg hat; have n0_ := Aside0.mk hb; have nb_ := Aside0.mk (blk_grown BK.out hg (Kd.R_ne HO57.out BK.out (by decide))); clear HQ BK; have HQ := n0_; have BK := nb_; clear nb_; have HO59 := Aside0.mk ho; clear n0_ ho hb hg hat) | ((with_reducible refine gate_builtin (b := .append) (xs := #[.tmp 59, .tmp 60]) rfl ?_); at_builtin; refine Kd.R_append_rows (Kd.int .i64) (w0 := wz) wz.heap.size rfl (.tmp 59) (.tmp 60) 65 3 (.int .i64 0) 8 rfl Try.underlying65 info3_ rfl (by decide) (by omega) v59 ([] ++ n1) n2 _ _ _ (fun _ => True) (fun _ => False) rfl rfl ?aO ?aR (fun _ _ h => h) (fun _ h => h.elim) ?aF ?aB ?aS ?aL ?_; (case aO => exact (by (with_reducible repeat (first | apply Kd.R_alloc | apply Kd.R_drewN | apply Kd.R_drew)); exact HO59.out)); (case aR => exact (Kd.C_below HVY.out (by repeat (first | (with_reducible first | exact HQ.out | apply below_alloc | apply pw_below_drewN | apply below_drew1) | exact HQ.out)))); (case aF => exact (fun _ _ => trivial)); (case aB => exact (by repeat (first | (with_reducible first | exact HQ.out | apply below_alloc | apply pw_below_drewN | apply below_drew1) | exact HQ.out))); (case aS => exact (below_size (by repeat (first | (with_reducible first | exact HQ.out | apply below_alloc | apply pw_below_drewN | apply below_drew1) | exact HQ.out)))); (case aL => simp only [List.length_nil, List.nil_append]; omega); intro v61 w9 ho hb hg hat; have n0_ := Aside0.mk hb; have nb_ := Aside0.mk (blk_grown BK.out hg (Kd.R_ne HO59.out BK.out (by decide))); clear HQ BK; have HQ := n0_; have BK := nb_; clear nb_; have HO61 := Aside0.mk ho; clear n0_ ho hb hg hat; rw [HBO.out] at HO61; obtain ⟨Ad, cd, ed⟩ := Kd.R_slice HO61.out; subst ed; clear HO57 HO59 HVX HVY LX LY))
        go_loopg [14] bo.length (fun kq v14 w' => ∃ x : Int, v14 = .int .i64 x ∧ 0 ≤ x ∧ x ≤ bo.length ∧ Aside0 ((kq : Int) + x = bo.length) ∧ Aside0 (w'.heap[gb]? = some (.cells (arrB (fun k => decide ((k : Int) ∈ bo.take x.toNat))) 78 (0, 0))) ∧ Aside0 (Kd.R (Kd.int .i64) 3 w' wz.heap.size (fun _ => True) (.slice Ad bo.length cd) bo) ∧ Aside0 (Below wz.heap.size wz w'))
        case atStart => exact ⟨0, rfl, by omega, by omega, ⟨by simp⟩, ⟨by rw [BK.out]; rfl⟩, HO61, HQ⟩
        case round =>
          clear BK HO61 HQ
          obtain ⟨x, rfl, p0, p1, HK, BK, HO61, HQ⟩ := hrel
          by_cases hlt : x < (bo.length : Int)
          · have c3b0 : decide (x < (bo.length : Int)) = true := decide_eq_true hlt
            obtain ⟨ad, e0, hx0⟩ := Kd.at_int (Kd.R_reads' HO61.out).2.2 x p0 hlt
            cases e0
            have p0' : (0 ≤ x) = True := eq_true p0
            have p1' : (x < (bo.length : Int)) = True := eq_true hlt
            have hge := HGE.out _ (rd_mem p0 hlt)
            have hsn := take_snoc bo x p0 hlt
            obtain ⟨k, hk⟩ : ∃ k, k = rd bo x := ⟨_, rfl⟩
            rw [← hk] at hge hx0 hsn
            clear hk
            have z1 : decide (k < 0) = false := decide_eq_false (by omega)
            have z2 : decide ((50 : Int) ≤ k) = false := decide_eq_false (by omega)
            have k0' : (0 ≤ k) = True := eq_true hge.1
            have k1' : (k < 50) = True := eq_true hge.2
            have hcu : wr.cell? ⟨gb, k.toNat, none⟩ = some (.bool (decide (((k.toNat : Nat) : Int) ∈ bo.take x.toNat))) := (blk_cell BK.out k.toNat).trans (arrB_at _ _ (by omega))
            have hfu := blk_frozen BK.out k.toNat
            have HSN := Aside0.mk hsn
            have HGK := Aside0.mk hge
            clear hsn
            go_wp2_with (fail)
            have n0_ := Aside0.mk (show (wr.setCell ⟨gb, k.toNat, none⟩ (.bool true)).heap[gb]? = some (.cells (arrB (fun j => decide ((j : Int) ∈ bo.take (x + 1).toNat))) 78 (0, 0)) from blk_put (cs := arrB (fun k => decide ((k : Int) ∈ bo.take x.toNat))) BK.out k.toNat _ (by rw [arrB_set _ _ (by have := HGK.out; omega), HSN.out]; exact congrArg arrB (arr_next _ k HGK.out.1)))
            have n1_ := Aside0.mk (show Kd.R (Kd.int .i64) 3 (wr.setCell ⟨gb, k.toNat, none⟩ (.bool true)) wz.heap.size (fun _ => True) (.slice (some ad) bo.length cd) bo from Kd.R_grown1 HO61.out rfl (grown_put wr gb k.toNat _) (Kd.R_ne HO61.out BK.out (by decide)))
            have n2_ := Aside0.mk (show Below wz.heap.size wz (wr.setCell ⟨gb, k.toNat, none⟩ (.bool true)) from HQ.out.setCell (p := ⟨gb, k.toNat, none⟩) GB.out _)
            go_roundg (gk - 1)
            case measure => have := HK.out; omega
            case rel => exact ⟨x + 1, (by first | rfl | go_num), by omega, by omega, ⟨by have := HK.out; omega⟩, n0_, n1_, n2_⟩
          · have c3b0 : decide (x < (bo.length : Int)) = false := decide_eq_false hlt
            have e_ : bo.take x.toNat = bo := List.take_of_length_le (by omega)
            rw [e_] at BK
            have n0_ := Aside0.mk (show wr.heap[gb]? = some (.cells (arrB (fun k : Nat => rdOf false b3 (k : Int))) 78 (0, 0)) from by
              rw [BK.out]
              have h_ : (fun k : Nat => decide ((k : Int) ∈ bo)) = fun k : Nat => rdOf false b3 (k : Int) := funext fun k => by
                have h1_ := HME.out (k : Int) (by omega)
                cases hb_ : rdOf false b3 (k : Int) with
                | true => exact decide_eq_true (h1_.2 hb_)
                | false => exact decide_eq_false (fun hm_ => by have := h1_.1 hm_; rw [hb_] at this; cases this)
              rw [h_])
            clear BK e_ HO61
            have BK := n0_
            clear n0_
            obtain ⟨wl, rfl⟩ : ∃ wl : World, wl = wr := ⟨_, rfl⟩
            go_wp2_with (fail)
            go_loopg [15, 16] 50 (fun kq v15 v16 w' => ∃ x : Int, v16 = .int .i64 x ∧ v15 = .int .i64 (cntB (b3.take x.toNat) : Int) ∧ 0 ≤ x ∧ x ≤ 50 ∧ Aside0 ((kq : Int) + x = 50) ∧ w' = wl)
            case atStart => exact ⟨0, rfl, rfl, by omega, by omega, ⟨by simp⟩, rfl⟩
            case round =>
              obtain ⟨i, rfl, rfl, r0, r1, HK2, rfl⟩ := hrel
              by_cases hli : i < 50
              · have d3b0 : decide (i < 50) = true := decide_eq_true hli
                have hci : wr.cell? ⟨gb, i.toNat, none⟩ = some (.bool (rdOf false b3 ((i.toNat : Nat) : Int))) := (blk_cell BK.out i.toNat).trans (arrB_at _ _ (by omega))
                have e1_ : ((i.toNat : Nat) : Int) = i := by omega
                rw [e1_] at hci
                clear e1_
                have i0' : (0 ≤ i) = True := eq_true r0
                have i1' : (i < 50) = True := eq_true hli
                have hnx := cntB_next2 b3 i r0
                have hcb := cntB_len b3
                have hct := cntB_take_le b3 i.toNat
                obtain ⟨c, hc⟩ : ∃ c : Int, c = (cntB (b3.take i.toNat) : Int) := ⟨_, rfl⟩
                have hc0 : 0 ≤ c := by omega
                cases hb_ : rdOf false b3 i with
                | false =>
                  rw [hb_] at hci
                  rw [if_neg (by rw [hb_]; decide)] at hnx
                  have HNX := Aside0.mk hnx
                  have HCC := Aside0.mk hc
                  rw [← hc]
                  clear hnx hc hct hcb hb_
                  go_wp2_with (fail)
                  go_roundg (gk - 1)
                  case measure => have := HK2.out; omega
                  case rel => exact ⟨i + 1, (by first | rfl | go_num), (by rw [HNX.out, HCC.out]), by omega, by omega, ⟨by have := HK2.out; omega⟩, rfl⟩
                | true =>
                  have hib := rdOf_in hb_
                  have hlt2 := cntB_lt b3 i r0 (by omega) hb_
                  have hat := nums_at b3 i r0 hb_
                  rw [← hc] at hat
                  rw [hb_] at hci
                  rw [if_pos hb_] at hnx
                  have hnl : (cntB b3 : Int) = n3.length := by rw [← HNSb3.out]; rfl
                  have hcn : c < (n3.length : Int) := by omega
                  obtain ⟨adn, en, hxn⟩ := Kd.at_int HVZ.out c hc0 hcn
                  cases en
                  rw [HNSb3.out] at hat
                  rw [hat] at hxn
                  replace hxn := (HQ.out.cell (World.block_lt_of_cell? wz _ hxn)).trans hxn
                  have HNX := Aside0.mk hnx
                  have HCC := Aside0.mk hc
                  have z1 : decide ((n3.length : Int) ≤ c) = false := decide_eq_false (by omega)
                  have q0' : (0 ≤ c) = True := eq_true hc0
                  have q1' : (c < (n3.length : Int)) = True := eq_true hcn
                  have hcu : c ≤ 5000 := by have := HB5b3.out; omega
                  rw [← hc]
                  clear hnx hc hct hcb hb_ hlt2 hnl hib
                  go_wp2_with (fail)
                  go_roundg (gk - 1)
                  case measure => have := HK2.out; omega
                  case rel => exact ⟨i + 1, (by first | rfl | go_num), (by rw [HNX.out, Int.natCast_add, ← HCC.out]; first | rfl | go_num), by omega, by omega, ⟨by have := HK2.out; omega⟩, rfl⟩
              · have d3b0 : decide (i < 50) = false := decide_eq_false hli
                have e_ : b3.take i.toNat = b3 := List.take_of_length_le (by have := HB40.out; omega)
                have e2_ : ((cntB b3 : Nat) : Int) = n3.length := by rw [← HNSb3.out]; rfl
                rw [e_, e2_]
                clear e_ e2_
                go_wp2_with (fail)
                go_ret
                exact ⟨rfl, below_step HC.out HQ.out⟩
      · have HER := Aside0.mk hz
        have z1 : (ofErr l 50 5000 == 0) = false := by simpa using hz
        have z2 : (ofErr l 50 5000 != 0) = true := by simpa using hz
        clear hz
        go_enter Try.func9, Try.ntmps9
        go_wp2_with (first | (go_at_call 33; (with_reducible refine (awake19 _).mono ?_); rintro e w' ⟨rfl, hb⟩; have n0_ := Aside0.mk (below_step (by repeat (first | (with_reducible first | exact HC.out | apply below_alloc | apply pw_below_drewN | apply below_drew1) | exact HC.out)) hb); clear HC ; have HC := n0_; clear n0_; clear hb) | (go_at_call 13; (with_reducible refine (monticuleref18_Small.calls 100 A0 c0 l _ _ (Kd.C_below HR0.out (by repeat (first | (with_reducible first | exact HC.out | apply below_alloc | apply pw_below_drewN | apply below_drew1) | exact HC.out))) HC0.out HSM.out).mono ?_); rintro e w' ⟨rfl, ⟨nd, rfl⟩⟩) | (go_at_call 14; (with_reducible refine (of_room A0 c0 l 50 5000 _ (Kd.C_below HR0.out (by repeat (first | (with_reducible first | exact HC.out | apply below_alloc | apply pw_below_drewN | apply below_drew1) | exact HC.out))) HC0.out HS.out HW.out HO.out).mono ?_); rintro e w' ⟨hy, hn, hb⟩; obtain rfl := hn HER.out; have n0_ := Aside0.mk (below_step (by repeat (first | (with_reducible first | exact HC.out | apply below_alloc | apply pw_below_drewN | apply below_drew1) | exact HC.out)) hb); clear HC; have HC := n0_; clear n0_ hy hn hb))
        go_ret
        exact ⟨rfl, HC.out⟩
end Go.Proofs.Ytiokegmpooildaa.Hp
