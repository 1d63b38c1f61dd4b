/- HeapRight, walked: it holds on every list of acts. -/
import Derived.Test.YtiokegmpooildaaHi
import Derived.Test.YtiokegmpooildaaWi
import Derived.Deep.Cut
namespace Go.Proofs.Ytiokegmpooildaa.Hp
open Go.RowKit Go.Proofs.YtiokegmpooildaaW.PrintWords Go.Proofs.YtiokegmpooildaaW.PrintLast Go.Proofs.YtiokegmpooildaaW.PrintMore Go.Proofs.Ytiokegmpooildaa.PAll
set_option linter.unusedVariables false
set_option linter.unusedSimpArgs false
set_option maxHeartbeats 16000000 in
set_option maxRecDepth 100000 in
theorem law_heapright (A0 : Option Addr) (c0 : Nat) (L : List S58) (w : World) (hr0 : Kd.C k58 w A0 L.length L) (hc0 : L.length ≤ c0) (hw : ActsW L) :
    Calls Try.prog 6 #[.slice A0 L.length c0] w fun e w' => e = .returned (.bool true) ∧ Below w.heap.size w w' := by
  have HR0 := Aside0.mk hr0
  have HC0 := Aside0.mk hc0
  have HW := Aside0.mk hw
  clear hr0 hc0 hw
  have HC := Aside0.mk (Below.refl w.heap.size w)
  cases hsm : smallA L with
  | false =>
    have HSM : Aside0 (monticulelaw18_small.f 100 L = some false) := ⟨by rw [smallA_val, hsm]⟩
    go_enter Try.func6, Try.ntmps6
    go_wp2_with (first | (go_at_call 20; (with_reducible refine (awake18 _).mono ?_); rintro e w' ⟨rfl, hb⟩; have n0_ := Aside0.mk (below_step (by repeat (first | (with_reducible first | exact HC.out | apply below_alloc | apply pw_below_drewN | apply below_drew1) | exact HC.out)) hb); clear HC; have HC := n0_; clear n0_ hb) | (go_at_call 28; (with_reducible refine (monticulelaw18_small.calls 100 A0 c0 L _ _ (Kd.C_below HR0.out (by repeat (first | (with_reducible first | exact HC.out | apply below_alloc | apply pw_below_drewN | apply below_drew1) | exact HC.out))) HC0.out HSM.out).mono ?_); rintro e w' ⟨rfl, ⟨nd, rfl⟩⟩))
    go_ret
    exact ⟨rfl, HC.out⟩
  | true =>
    have HSM : Aside0 (monticulelaw18_small.f 100 L = some true) := ⟨by rw [smallA_val, hsm]⟩
    have HSB := Aside0.mk (smallA_in hsm)
    have hl5 : L.length ≤ 40 := HSB.out.1
    have HI := Aside0.mk (show HeapOk oneL 20 200 from ⟨by decide, by decide, by decide, by decide, by unfold WordsL W64 oneL; decide, by decide⟩)
    have HU := Aside0.mk (show (2 : Int) = usedL oneL by decide)
    have HRP := Aside0.mk (show roomP 20 200 by unfold roomP; decide)
    go_enter Try.func6, Try.ntmps6
    go_wp2_with (first | (go_at_call 20; (with_reducible refine (awake18 _).mono ?_); rintro e w' ⟨rfl, hb⟩; have n0_ := Aside0.mk (below_step (by repeat (first | (with_reducible first | exact HC.out | apply below_alloc | apply pw_below_drewN | apply below_drew1) | exact HC.out)) hb); clear HC; have HC := n0_; clear n0_ hb) | (go_at_call 28; (with_reducible refine (monticulelaw18_small.calls 100 A0 c0 L _ _ (Kd.C_below HR0.out (by repeat (first | (with_reducible first | exact HC.out | apply below_alloc | apply pw_below_drewN | apply below_drew1) | exact HC.out))) HC0.out HSM.out).mono ?_); rintro e w' ⟨rfl, ⟨nd, rfl⟩⟩) | (go_at_call 29; (with_reducible refine (heap_New 20 200 _ (by decide) (by decide)).mono ?_); rintro e w' ⟨g, rfl, hO, hb⟩; have HO := Aside0.mk (hO.weaken (below_size (by repeat (first | (with_reducible first | exact HC.out | apply below_alloc | apply pw_below_drewN | apply below_drew1) | exact HC.out)))); have n0_ := Aside0.mk (below_step (by repeat (first | (with_reducible first | exact HC.out | apply below_alloc | apply pw_below_drewN | apply below_drew1) | exact HC.out)) hb); clear HC; have HC := n0_; clear n0_ hb; clear hO))
    rw [HU.out] at HO
    go_loopg [5] L.length (fun kq v5 w' => ∃ (x : Int) (l : List S53), v5 = .int .i64 x ∧ 0 ≤ x ∧ x ≤ L.length ∧ Aside0 ((kq : Int) + x = L.length) ∧ Aside0 (HeapO w' g w.heap.size (fun k => w.heap.size ≤ k) l 20 200 (usedL l)) ∧ Aside0 (HeapOk l 20 200) ∧ Aside0 (Below w.heap.size w w'))
    case atStart => exact ⟨0, _, rfl, by omega, by omega, ⟨by simp⟩, HO, HI, HC⟩
    case round =>
      clear HO HI HC
      obtain ⟨x, l, rfl, p0, p1, HK, HO, HI, HB⟩ := hrel
      by_cases hlt : x < (L.length : Int)
      · have c3b0 : decide (x < (L.length : Int)) = true := decide_eq_true hlt
        obtain ⟨ad, A4, c4, e0, hx0, hx1, hx2, hx3, hx4, hl4, hi4⟩ := at_T58 HR0.out x p0 hlt
        cases e0
        replace hx0 := (HB.out.cell (World.block_lt_of_cell? w _ hx0)).trans hx0
        replace hx1 := (HB.out.cell (World.block_lt_of_cell? w _ hx1)).trans hx1
        replace hx2 := (HB.out.cell (World.block_lt_of_cell? w _ hx2)).trans hx2
        replace hx3 := (HB.out.cell (World.block_lt_of_cell? w _ hx3)).trans hx3
        replace hx4 := (HB.out.cell (World.block_lt_of_cell? w _ hx4)).trans hx4
        have HR4 := Aside0.mk hi4
        have HL4 := Aside0.mk hl4
        clear hi4 hl4
        have HAW := Aside0.mk (HW.out _ (rd58_mem p0 hlt))
        have HBL := Aside0.mk (show (rd_T58 L x).f4.length ≤ 100000 by have := HSB.out.2 _ (rd58_mem p0 hlt); omega)
        have p0' : (0 ≤ x) = True := eq_true p0
        have p1' : (x < (L.length : Int)) = True := eq_true hlt
        have HC := Aside0.mk (Below.refl wr.heap.size wr)
        go_upto_region 10 with (first | ((with_reducible refine gate_dst (N := 6) rfl ?_); refine box_event ?hg (N := 6) ?hd (cs := #[.int .i64 0, .int .u64 0, .int .u64 0, .int .i64 0, .slice none 0 0]) (t := 58) ?hr ?_; (case hd => rfl); (case hg => rfl); (case hr => first | (go_simp; done) | (go_simp; rfl)); intro gb hg wbgb hbox hb; have n0_ := Aside0.mk (below_step (by repeat (first | (with_reducible first | exact HC.out | apply below_alloc | apply pw_below_drewN | apply below_drew1) | exact HC.out)) hb); have n1_ := Aside0.mk (hbox); have n2_ := Aside0.mk (by rw [hg]; exact below_size (by repeat (first | (with_reducible first | exact HC.out | apply below_alloc | apply pw_below_drewN | apply below_drew1) | exact HC.out)) : wr.heap.size ≤ gb); clear HC; have HC := n0_; have BKgb := n1_; have GEgb := n2_; clear n0_ n1_ n2_; clear hb hbox hg; have hzgb0 : wbgb.cell? ⟨gb, 0, none⟩ = some (.int .i64 0) := (blk_cell BKgb.out 0).trans rfl; have hfgb0 := blk_frozen BKgb.out 0; have hzgb1 : wbgb.cell? ⟨gb, 1, none⟩ = some (.int .u64 0) := (blk_cell BKgb.out 1).trans rfl; have hfgb1 := blk_frozen BKgb.out 1; have hzgb2 : wbgb.cell? ⟨gb, 2, none⟩ = some (.int .u64 0) := (blk_cell BKgb.out 2).trans rfl; have hfgb2 := blk_frozen BKgb.out 2; have hzgb3 : wbgb.cell? ⟨gb, 3, none⟩ = some (.int .i64 0) := (blk_cell BKgb.out 3).trans rfl; have hfgb3 := blk_frozen BKgb.out 3; have hzgb4 : wbgb.cell? ⟨gb, 4, none⟩ = some (.slice none 0 0) := (blk_cell BKgb.out 4).trans rfl; have hfgb4 := blk_frozen BKgb.out 4))
        have n0_ := Aside0.mk (show (((((wbgb.setCell ⟨gb, 0, none⟩ (.int .i64 (rd_T58 L x).f0)).setCell ⟨gb, 1, none⟩ (.int .u64 (rd_T58 L x).f1)).setCell ⟨gb, 2, none⟩ (.int .u64 (rd_T58 L x).f2)).setCell ⟨gb, 3, none⟩ (.int .i64 (rd_T58 L x).f3)).setCell ⟨gb, 4, none⟩ (.slice A4 (rd_T58 L x).f4.length c4)).heap[gb]? = some (.cells #[.int .i64 (rd_T58 L x).f0, .int .u64 (rd_T58 L x).f1, .int .u64 (rd_T58 L x).f2, .int .i64 (rd_T58 L x).f3, .slice A4 (rd_T58 L x).f4.length c4] 58 (0, 0)) from blk_put (cs := #[.int .i64 (rd_T58 L x).f0, .int .u64 (rd_T58 L x).f1, .int .u64 (rd_T58 L x).f2, .int .i64 (rd_T58 L x).f3, .slice none 0 0]) (blk_put (cs := #[.int .i64 (rd_T58 L x).f0, .int .u64 (rd_T58 L x).f1, .int .u64 (rd_T58 L x).f2, .int .i64 0, .slice none 0 0]) (blk_put (cs := #[.int .i64 (rd_T58 L x).f0, .int .u64 (rd_T58 L x).f1, .int .u64 0, .int .i64 0, .slice none 0 0]) (blk_put (cs := #[.int .i64 (rd_T58 L x).f0, .int .u64 0, .int .u64 0, .int .i64 0, .slice none 0 0]) (blk_put (cs := #[.int .i64 0, .int .u64 0, .int .u64 0, .int .i64 0, .slice none 0 0]) BKgb.out 0 _ rfl) 1 _ rfl) 2 _ rfl) 3 _ rfl) 4 _ rfl)
        have n1_ := Aside0.mk (show Below wr.heap.size wr (((((wbgb.setCell ⟨gb, 0, none⟩ (.int .i64 (rd_T58 L x).f0)).setCell ⟨gb, 1, none⟩ (.int .u64 (rd_T58 L x).f1)).setCell ⟨gb, 2, none⟩ (.int .u64 (rd_T58 L x).f2)).setCell ⟨gb, 3, none⟩ (.int .i64 (rd_T58 L x).f3)).setCell ⟨gb, 4, none⟩ (.slice A4 (rd_T58 L x).f4.length c4)) from by repeat (first | (with_reducible first | exact HC.out | refine below_set ?_ GEgb.out) | exact HC.out))
        have n2_ := Aside0.mk (HO.out.below n1_.out)
        have n3_ := Aside0.mk (below_step HB.out n1_.out)
        clear HO HB HC BKgb hzgb0 hzgb1 hzgb2 hzgb3 hzgb4 hfgb0 hfgb1 hfgb2 hfgb3 hfgb4
        generalize (((((wbgb.setCell ⟨gb, 0, none⟩ (.int .i64 (rd_T58 L x).f0)).setCell ⟨gb, 1, none⟩ (.int .u64 (rd_T58 L x).f1)).setCell ⟨gb, 2, none⟩ (.int .u64 (rd_T58 L x).f2)).setCell ⟨gb, 3, none⟩ (.int .i64 (rd_T58 L x).f3)).setCell ⟨gb, 4, none⟩ (.slice A4 (rd_T58 L x).f4.length c4)) = W1 at n0_ n2_ n3_ ⊢
        have HO := n2_
        have HC := n3_
        have k0 : W1.cell? ⟨gb, 0, none⟩ = some (.int .i64 (rd_T58 L x).f0) := (blk_cell n0_.out 0).trans rfl
        have k1 : W1.cell? ⟨gb, 1, none⟩ = some (.int .u64 (rd_T58 L x).f1) := (blk_cell n0_.out 1).trans rfl
        have k2 : W1.cell? ⟨gb, 2, none⟩ = some (.int .u64 (rd_T58 L x).f2) := (blk_cell n0_.out 2).trans rfl
        have k3 : W1.cell? ⟨gb, 3, none⟩ = some (.int .i64 (rd_T58 L x).f3) := (blk_cell n0_.out 3).trans rfl
        have k4 : W1.cell? ⟨gb, 4, none⟩ = some (.slice A4 (rd_T58 L x).f4.length c4) := (blk_cell n0_.out 4).trans rfl
        clear n0_ n1_ n2_ n3_ hx0 hx1 hx2 hx3 hx4
        by_cases q0 : (rd_T58 L x).f0 = 0
        · rw [q0] at k0
          obtain ⟨m, hm⟩ : ∃ m, m = makeL l 20 200 (usedL l) (rd_T58 L x).f1 (rd_T58 L x).f3 (rd_T58 L x).f4 := ⟨_, rfl⟩
          have HM := Aside0.mk hm
          have HIM := Aside0.mk (show HeapOk m 20 200 by rw [hm]; exact (HI.out.made HAW.out.2.1).1)
          clear hm
          have HSM2 := Aside0.mk (HIM.out.smallL (by decide))
          have HWM := Aside0.mk HIM.out.words
          have HE0 := Aside0.mk HIM.out.ofErr0
          go_wp2_with (fail)
          refine (heap_Make g w.heap.size (rd_T58 L x).f1 (rd_T58 L x).f3 A4 c4 (rd_T58 L x).f4 l 20 200 (usedL l) w _ HO.out HI.out.len (by decide) HAW.out.2.1 HAW.out.2.2.2 HBL.out HR4.out HL4.out HC.out (Nat.le_refl _) HI.out.used0 HI.out.used (by decide)).mono ?_
          rintro e w' ⟨rfl, hg, hb⟩
          rw [(HI.out.made HAW.out.2.1).2] at hg
          rw [show makeL l 20 200 (usedL l) (rd_T58 L x).f1 (rd_T58 L x).f3 (rd_T58 L x).f4 = m from HM.out.symm] at hg
          have n0_ := Aside0.mk (HC.out.trans hb)
          clear HC HO
          have HC := n0_
          clear n0_
          have HO := Aside0.mk hg
          clear hb hg
          go_wp2_with (first | (go_at_call 18; (with_reducible refine (heap_Objects g m 20 200 _ _ (HO.out.reads.below (by repeat (first | (with_reducible first | exact Below.refl _ _ | apply below_alloc | apply pw_below_drewN | apply below_drew1) | exact Below.refl _ _))) HSM2.out).mono ?_); rintro e w' ⟨v, rfl, hS, hb⟩; obtain ⟨AN, cN, rfl, hlN, hCN⟩ := Kd.S_reads hS; have LN := Aside0.mk hlN; have HVN := Aside0.mk hCN; have n1_ := Aside0.mk (HO.out.below (below_step (by repeat (first | (with_reducible first | exact Below.refl _ _ | apply below_alloc | apply pw_below_drewN | apply below_drew1) | exact Below.refl _ _)) hb)); have n0_ := Aside0.mk (below_step (by repeat (first | (with_reducible first | exact HC.out | apply below_alloc | apply pw_below_drewN | apply below_drew1) | exact HC.out)) hb); clear HC HO; have HC := n0_; have HO := n1_; clear n0_ n1_; clear hS hlN hCN hb) | (go_at_call 14; (with_reducible refine (of_room AN cN m 20 200 _ (Kd.C_below HVN.out (by repeat (first | (with_reducible first | exact Below.refl _ _ | apply below_alloc | apply pw_below_drewN | apply below_drew1) | exact Below.refl _ _))) LN.out HSM2.out HWM.out HRP.out).mono ?_); rintro e w' ⟨hy, hn, hb⟩; obtain ⟨gx, rfl, hgx⟩ := hy HE0.out; have HX := Aside0.mk hgx.reads; have n1_ := Aside0.mk (HO.out.below (below_step (by repeat (first | (with_reducible first | exact Below.refl _ _ | apply below_alloc | apply pw_below_drewN | apply below_drew1) | exact Below.refl _ _)) hb)); have n0_ := Aside0.mk (below_step (by repeat (first | (with_reducible first | exact HC.out | apply below_alloc | apply pw_below_drewN | apply below_drew1) | exact HC.out)) hb); clear HC HO; have HC := n0_; have HO := n1_; clear n0_ n1_; clear hy hn hgx hb) | (go_at_call 23; (with_reducible refine (heap_Len gx m 20 200 _ _ (HX.out.below (by repeat (first | (with_reducible first | exact Below.refl _ _ | apply below_alloc | apply pw_below_drewN | apply below_drew1) | exact Below.refl _ _)))).mono ?_); rintro e w' ⟨rfl, ⟨nd, rfl⟩⟩) | (go_at_call 23; (with_reducible refine (heap_Len g m 20 200 _ _ (HO.out.reads.below (by repeat (first | (with_reducible first | exact Below.refl _ _ | apply below_alloc | apply pw_below_drewN | apply below_drew1) | exact Below.refl _ _)))).mono ?_); rintro e w' ⟨rfl, ⟨nd, rfl⟩⟩) | (go_at_call 24; (with_reducible refine (heap_Words gx m 20 200 _ _ (HX.out.below (by repeat (first | (with_reducible first | exact Below.refl _ _ | apply below_alloc | apply pw_below_drewN | apply below_drew1) | exact Below.refl _ _)))).mono ?_); rintro e w' ⟨rfl, ⟨nd, rfl⟩⟩) | (go_at_call 24; (with_reducible refine (heap_Words g m 20 200 _ _ (HO.out.reads.below (by repeat (first | (with_reducible first | exact Below.refl _ _ | apply below_alloc | apply pw_below_drewN | apply below_drew1) | exact Below.refl _ _)))).mono ?_); rintro e w' ⟨rfl, ⟨nd, rfl⟩⟩))
          go_roundg (gk - 1)
          case measure => have := HK.out; omega
          case rel => exact ⟨x + 1, m, (by first | rfl | go_num), by omega, by omega, ⟨by have := HK.out; omega⟩, ⟨HO.out.below (by repeat (first | (with_reducible first | exact Below.refl _ _ | apply below_alloc | apply pw_below_drewN | apply below_drew1) | exact Below.refl _ _))⟩, HIM, ⟨(by repeat (first | (with_reducible first | exact HC.out | apply below_alloc | apply pw_below_drewN | apply below_drew1) | exact HC.out))⟩⟩
        · by_cases q1 : (rd_T58 L x).f0 = 1
          · rw [q1] at k0
            obtain ⟨m, hm⟩ : ∃ m, m = setL l (rd_T58 L x).f1 (rd_T58 L x).f3 (rd_T58 L x).f2 := ⟨_, rfl⟩
            have HM := Aside0.mk hm
            have HIM := Aside0.mk (show HeapOk m 20 200 by rw [hm]; exact (HI.out.setted HAW.out.2.1 HAW.out.2.2.1).1)
            clear hm
            have HSM2 := Aside0.mk (HIM.out.smallL (by decide))
            have HWM := Aside0.mk HIM.out.words
            have HE0 := Aside0.mk HIM.out.ofErr0
            go_wp2_with (fail)
            refine (heap_Set g w.heap.size (rd_T58 L x).f1 (rd_T58 L x).f3 (rd_T58 L x).f2 l 20 200 (usedL l) _ HO.out (HI.out.smallL (by decide)).1 HAW.out.2.1 HAW.out.2.2.1).mono ?_
            rintro e w' ⟨rfl, hg, hb⟩
            rw [← (HI.out.setted HAW.out.2.1 HAW.out.2.2.1).2, show setL l (rd_T58 L x).f1 (rd_T58 L x).f3 (rd_T58 L x).f2 = m from HM.out.symm] at hg
            have n0_ := Aside0.mk (HC.out.trans hb)
            clear HC HO
            have HC := n0_
            clear n0_
            have HO := Aside0.mk hg
            clear hb hg
            go_wp2_with (first | (go_at_call 18; (with_reducible refine (heap_Objects g m 20 200 _ _ (HO.out.reads.below (by repeat (first | (with_reducible first | exact Below.refl _ _ | apply below_alloc | apply pw_below_drewN | apply below_drew1) | exact Below.refl _ _))) HSM2.out).mono ?_); rintro e w' ⟨v, rfl, hS, hb⟩; obtain ⟨AN, cN, rfl, hlN, hCN⟩ := Kd.S_reads hS; have LN := Aside0.mk hlN; have HVN := Aside0.mk hCN; have n1_ := Aside0.mk (HO.out.below (below_step (by repeat (first | (with_reducible first | exact Below.refl _ _ | apply below_alloc | apply pw_below_drewN | apply below_drew1) | exact Below.refl _ _)) hb)); have n0_ := Aside0.mk (below_step (by repeat (first | (with_reducible first | exact HC.out | apply below_alloc | apply pw_below_drewN | apply below_drew1) | exact HC.out)) hb); clear HC HO; have HC := n0_; have HO := n1_; clear n0_ n1_; clear hS hlN hCN hb) | (go_at_call 14; (with_reducible refine (of_room AN cN m 20 200 _ (Kd.C_below HVN.out (by repeat (first | (with_reducible first | exact Below.refl _ _ | apply below_alloc | apply pw_below_drewN | apply below_drew1) | exact Below.refl _ _))) LN.out HSM2.out HWM.out HRP.out).mono ?_); rintro e w' ⟨hy, hn, hb⟩; obtain ⟨gx, rfl, hgx⟩ := hy HE0.out; have HX := Aside0.mk hgx.reads; have n1_ := Aside0.mk (HO.out.below (below_step (by repeat (first | (with_reducible first | exact Below.refl _ _ | apply below_alloc | apply pw_below_drewN | apply below_drew1) | exact Below.refl _ _)) hb)); have n0_ := Aside0.mk (below_step (by repeat (first | (with_reducible first | exact HC.out | apply below_alloc | apply pw_below_drewN | apply below_drew1) | exact HC.out)) hb); clear HC HO; have HC := n0_; have HO := n1_; clear n0_ n1_; clear hy hn hgx hb) | (go_at_call 23; (with_reducible refine (heap_Len gx m 20 200 _ _ (HX.out.below (by repeat (first | (with_reducible first | exact Below.refl _ _ | apply below_alloc | apply pw_below_drewN | apply below_drew1) | exact Below.refl _ _)))).mono ?_); rintro e w' ⟨rfl, ⟨nd, rfl⟩⟩) | (go_at_call 23; (with_reducible refine (heap_Len g m 20 200 _ _ (HO.out.reads.below (by repeat (first | (with_reducible first | exact Below.refl _ _ | apply below_alloc | apply pw_below_drewN | apply below_drew1) | exact Below.refl _ _)))).mono ?_); rintro e w' ⟨rfl, ⟨nd, rfl⟩⟩) | (go_at_call 24; (with_reducible refine (heap_Words gx m 20 200 _ _ (HX.out.below (by repeat (first | (with_reducible first | exact Below.refl _ _ | apply below_alloc | apply pw_below_drewN | apply below_drew1) | exact Below.refl _ _)))).mono ?_); rintro e w' ⟨rfl, ⟨nd, rfl⟩⟩) | (go_at_call 24; (with_reducible refine (heap_Words g m 20 200 _ _ (HO.out.reads.below (by repeat (first | (with_reducible first | exact Below.refl _ _ | apply below_alloc | apply pw_below_drewN | apply below_drew1) | exact Below.refl _ _)))).mono ?_); rintro e w' ⟨rfl, ⟨nd, rfl⟩⟩))
            go_roundg (gk - 1)
            case measure => have := HK.out; omega
            case rel => exact ⟨x + 1, m, (by first | rfl | go_num), by omega, by omega, ⟨by have := HK.out; omega⟩, ⟨HO.out.below (by repeat (first | (with_reducible first | exact Below.refl _ _ | apply below_alloc | apply pw_below_drewN | apply below_drew1) | exact Below.refl _ _))⟩, HIM, ⟨(by repeat (first | (with_reducible first | exact HC.out | apply below_alloc | apply pw_below_drewN | apply below_drew1) | exact HC.out))⟩⟩
          · by_cases q2 : (rd_T58 L x).f0 = 2
            · rw [q2] at k0
              obtain ⟨m, hm⟩ : ∃ m, m = setCL l (rd_T58 L x).f1 (rd_T58 L x).f2 := ⟨_, rfl⟩
              have HM := Aside0.mk hm
              have HIM := Aside0.mk (show HeapOk m 20 200 by rw [hm]; exact (HI.out.settedC HAW.out.2.1 HAW.out.2.2.1).1)
              clear hm
              have HSM2 := Aside0.mk (HIM.out.smallL (by decide))
              have HWM := Aside0.mk HIM.out.words
              have HE0 := Aside0.mk HIM.out.ofErr0
              go_wp2_with (fail)
              refine (heap_SetClass g w.heap.size (rd_T58 L x).f1 (rd_T58 L x).f2 l 20 200 (usedL l) _ HO.out (HI.out.smallL (by decide)).1 HAW.out.2.1 HAW.out.2.2.1).mono ?_
              rintro e w' ⟨rfl, hg, hb⟩
              rw [← (HI.out.settedC HAW.out.2.1 HAW.out.2.2.1).2, show setCL l (rd_T58 L x).f1 (rd_T58 L x).f2 = m from HM.out.symm] at hg
              have n0_ := Aside0.mk (HC.out.trans hb)
              clear HC HO
              have HC := n0_
              clear n0_
              have HO := Aside0.mk hg
              clear hb hg
              go_wp2_with (first | (go_at_call 18; (with_reducible refine (heap_Objects g m 20 200 _ _ (HO.out.reads.below (by repeat (first | (with_reducible first | exact Below.refl _ _ | apply below_alloc | apply pw_below_drewN | apply below_drew1) | exact Below.refl _ _))) HSM2.out).mono ?_); rintro e w' ⟨v, rfl, hS, hb⟩; obtain ⟨AN, cN, rfl, hlN, hCN⟩ := Kd.S_reads hS; have LN := Aside0.mk hlN; have HVN := Aside0.mk hCN; have n1_ := Aside0.mk (HO.out.below (below_step (by repeat (first | (with_reducible first | exact Below.refl _ _ | apply below_alloc | apply pw_below_drewN | apply below_drew1) | exact Below.refl _ _)) hb)); have n0_ := Aside0.mk (below_step (by repeat (first | (with_reducible first | exact HC.out | apply below_alloc | apply pw_below_drewN | apply below_drew1) | exact HC.out)) hb); clear HC HO; have HC := n0_; have HO := n1_; clear n0_ n1_; clear hS hlN hCN hb) | (go_at_call 14; (with_reducible refine (of_room AN cN m 20 200 _ (Kd.C_below HVN.out (by repeat (first | (with_reducible first | exact Below.refl _ _ | apply below_alloc | apply pw_below_drewN | apply below_drew1) | exact Below.refl _ _))) LN.out HSM2.out HWM.out HRP.out).mono ?_); rintro e w' ⟨hy, hn, hb⟩; obtain ⟨gx, rfl, hgx⟩ := hy HE0.out; have HX := Aside0.mk hgx.reads; have n1_ := Aside0.mk (HO.out.below (below_step (by repeat (first | (with_reducible first | exact Below.refl _ _ | apply below_alloc | apply pw_below_drewN | apply below_drew1) | exact Below.refl _ _)) hb)); have n0_ := Aside0.mk (below_step (by repeat (first | (with_reducible first | exact HC.out | apply below_alloc | apply pw_below_drewN | apply below_drew1) | exact HC.out)) hb); clear HC HO; have HC := n0_; have HO := n1_; clear n0_ n1_; clear hy hn hgx hb) | (go_at_call 23; (with_reducible refine (heap_Len gx m 20 200 _ _ (HX.out.below (by repeat (first | (with_reducible first | exact Below.refl _ _ | apply below_alloc | apply pw_below_drewN | apply below_drew1) | exact Below.refl _ _)))).mono ?_); rintro e w' ⟨rfl, ⟨nd, rfl⟩⟩) | (go_at_call 23; (with_reducible refine (heap_Len g m 20 200 _ _ (HO.out.reads.below (by repeat (first | (with_reducible first | exact Below.refl _ _ | apply below_alloc | apply pw_below_drewN | apply below_drew1) | exact Below.refl _ _)))).mono ?_); rintro e w' ⟨rfl, ⟨nd, rfl⟩⟩) | (go_at_call 24; (with_reducible refine (heap_Words gx m 20 200 _ _ (HX.out.below (by repeat (first | (with_reducible first | exact Below.refl _ _ | apply below_alloc | apply pw_below_drewN | apply below_drew1) | exact Below.refl _ _)))).mono ?_); rintro e w' ⟨rfl, ⟨nd, rfl⟩⟩) | (go_at_call 24; (with_reducible refine (heap_Words g m 20 200 _ _ (HO.out.reads.below (by repeat (first | (with_reducible first | exact Below.refl _ _ | apply below_alloc | apply pw_below_drewN | apply below_drew1) | exact Below.refl _ _)))).mono ?_); rintro e w' ⟨rfl, ⟨nd, rfl⟩⟩))
              go_roundg (gk - 1)
              case measure => have := HK.out; omega
              case rel => exact ⟨x + 1, m, (by first | rfl | go_num), by omega, by omega, ⟨by have := HK.out; omega⟩, ⟨HO.out.below (by repeat (first | (with_reducible first | exact Below.refl _ _ | apply below_alloc | apply pw_below_drewN | apply below_drew1) | exact Below.refl _ _))⟩, HIM, ⟨(by repeat (first | (with_reducible first | exact HC.out | apply below_alloc | apply pw_below_drewN | apply below_drew1) | exact HC.out))⟩⟩
            · have z0 : ((rd_T58 L x).f0 == 0) = false := by simpa using q0
              have z1 : ((rd_T58 L x).f0 == 1) = false := by simpa using q1
              have z2 : ((rd_T58 L x).f0 == 2) = false := by simpa using q2
              obtain ⟨m, hm⟩ : ∃ m, m = l := ⟨_, rfl⟩
              have HM := Aside0.mk hm
              have HIM := Aside0.mk (show HeapOk m 20 200 by rw [hm]; exact HI.out)
              clear hm
              have HSM2 := Aside0.mk (HIM.out.smallL (by decide))
              have HWM := Aside0.mk HIM.out.words
              have HE0 := Aside0.mk HIM.out.ofErr0
              rw [← HM.out] at HO
              go_wp2_with (first | (go_at_call 18; (with_reducible refine (heap_Objects g m 20 200 _ _ (HO.out.reads.below (by repeat (first | (with_reducible first | exact Below.refl _ _ | apply below_alloc | apply pw_below_drewN | apply below_drew1) | exact Below.refl _ _))) HSM2.out).mono ?_); rintro e w' ⟨v, rfl, hS, hb⟩; obtain ⟨AN, cN, rfl, hlN, hCN⟩ := Kd.S_reads hS; have LN := Aside0.mk hlN; have HVN := Aside0.mk hCN; have n1_ := Aside0.mk (HO.out.below (below_step (by repeat (first | (with_reducible first | exact Below.refl _ _ | apply below_alloc | apply pw_below_drewN | apply below_drew1) | exact Below.refl _ _)) hb)); have n0_ := Aside0.mk (below_step (by repeat (first | (with_reducible first | exact HC.out | apply below_alloc | apply pw_below_drewN | apply below_drew1) | exact HC.out)) hb); clear HC HO; have HC := n0_; have HO := n1_; clear n0_ n1_; clear hS hlN hCN hb) | (go_at_call 14; (with_reducible refine (of_room AN cN m 20 200 _ (Kd.C_below HVN.out (by repeat (first | (with_reducible first | exact Below.refl _ _ | apply below_alloc | apply pw_below_drewN | apply below_drew1) | exact Below.refl _ _))) LN.out HSM2.out HWM.out HRP.out).mono ?_); rintro e w' ⟨hy, hn, hb⟩; obtain ⟨gx, rfl, hgx⟩ := hy HE0.out; have HX := Aside0.mk hgx.reads; have n1_ := Aside0.mk (HO.out.below (below_step (by repeat (first | (with_reducible first | exact Below.refl _ _ | apply below_alloc | apply pw_below_drewN | apply below_drew1) | exact Below.refl _ _)) hb)); have n0_ := Aside0.mk (below_step (by repeat (first | (with_reducible first | exact HC.out | apply below_alloc | apply pw_below_drewN | apply below_drew1) | exact HC.out)) hb); clear HC HO; have HC := n0_; have HO := n1_; clear n0_ n1_; clear hy hn hgx hb) | (go_at_call 23; (with_reducible refine (heap_Len gx m 20 200 _ _ (HX.out.below (by repeat (first | (with_reducible first | exact Below.refl _ _ | apply below_alloc | apply pw_below_drewN | apply below_drew1) | exact Below.refl _ _)))).mono ?_); rintro e w' ⟨rfl, ⟨nd, rfl⟩⟩) | (go_at_call 23; (with_reducible refine (heap_Len g m 20 200 _ _ (HO.out.reads.below (by repeat (first | (with_reducible first | exact Below.refl _ _ | apply below_alloc | apply pw_below_drewN | apply below_drew1) | exact Below.refl _ _)))).mono ?_); rintro e w' ⟨rfl, ⟨nd, rfl⟩⟩) | (go_at_call 24; (with_reducible refine (heap_Words gx m 20 200 _ _ (HX.out.below (by repeat (first | (with_reducible first | exact Below.refl _ _ | apply below_alloc | apply pw_below_drewN | apply below_drew1) | exact Below.refl _ _)))).mono ?_); rintro e w' ⟨rfl, ⟨nd, rfl⟩⟩) | (go_at_call 24; (with_reducible refine (heap_Words g m 20 200 _ _ (HO.out.reads.below (by repeat (first | (with_reducible first | exact Below.refl _ _ | apply below_alloc | apply pw_below_drewN | apply below_drew1) | exact Below.refl _ _)))).mono ?_); rintro e w' ⟨rfl, ⟨nd, rfl⟩⟩))
              go_roundg (gk - 1)
              case measure => have := HK.out; omega
              case rel => exact ⟨x + 1, m, (by first | rfl | go_num), by omega, by omega, ⟨by have := HK.out; omega⟩, ⟨HO.out.below (by repeat (first | (with_reducible first | exact Below.refl _ _ | apply below_alloc | apply pw_below_drewN | apply below_drew1) | exact Below.refl _ _))⟩, HIM, ⟨(by repeat (first | (with_reducible first | exact HC.out | apply below_alloc | apply pw_below_drewN | apply below_drew1) | exact HC.out))⟩⟩
      · have c3b0 : decide (x < (L.length : Int)) = false := decide_eq_false hlt
        go_wp2_with (fail)
        go_ret
        exact ⟨rfl, HB.out⟩
end Go.Proofs.Ytiokegmpooildaa.Hp
