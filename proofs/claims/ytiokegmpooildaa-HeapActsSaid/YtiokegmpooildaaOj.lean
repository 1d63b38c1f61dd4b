/- The heap that is read: one object, in new memory. -/
import Derived.Test.YtiokegmpooildaaHs
import Derived.Test.YtiokegmpooildaaOb
namespace Go.Proofs.Ytiokegmpooildaa.Hp
open Go.RowKit Go.Proofs.YtiokegmpooildaaW.PrintWords Go.Proofs.YtiokegmpooildaaW.PrintLast Go.Proofs.YtiokegmpooildaaW.PrintMore Go.Proofs.Ytiokegmpooildaa.PAll
set_option linter.unusedVariables false
set_option linter.unusedSimpArgs false
theorem thereP_at {n : Nat} {a : Int} (h : thereP n a = true) : a % 2 = 0 ∧ a / 2 < (n : Int) := by
  unfold thereP at h
  exact of_decide_eq_true h

/-- The object behind a word; nothing where there is none. -/
def objectL (l : List S53) (a : Int) : S53 := if thereP l.length a = true then rd_T53 l (a / 2) else ⟨0, [], []⟩

set_option maxHeartbeats 16000000 in
set_option maxRecDepth 100000 in
theorem heap_Object (g : Nat) (a : Int) (l : List S53) (o wd u : Int) (w : World) (hH : HeapC w g l o wd u) (hs : SmallL l) (ha : W64 a) :
    Calls Try.prog 47 #[.pointer (some ⟨g, 0, none⟩), .int .u64 a] w fun e w' => ∃ v1 v2 : Value, e = .returned (.tuple #[.agg #[.int .u64 (objectL l a).f0, v1, v2], .bool (thereP l.length a)]) ∧ Kd.R (Kd.int .u64) 36 w' w.heap.size (fun k => w.heap.size ≤ k) v1 (objectL l a).f1 ∧ Kd.R (Kd.int .u8) 5 w' w.heap.size (fun k => w.heap.size ≤ k) v2 (objectL l a).f2 ∧ Below w.heap.size w w' := by
  have hu53 := Try.underlying53
  obtain ⟨i, ok, hi, hth, hix, hi0⟩ := index_tells ha l.length hs.1
  have HI := Aside0.mk hi
  have HS := Aside0.mk hs
  have HT := Aside0.mk hth
  have HH := Aside0.mk hH
  have HC := Aside0.mk (Below.refl w.heap.size w)
  clear hi hs hth
  cases ht : thereP l.length a with
  | false =>
    rw [ht] at HT
    have HE : objectL l a = ⟨0, [], []⟩ := by unfold objectL; rw [ht]; rfl
    rw [HE]
    clear hH ht hix HE
    go_enter Try.func47, Try.ntmps47
    go_wp2_with (first | ((with_reducible refine gate_dst (N := 4) rfl ?_); refine box_event ?hg (N := 4) ?hd (cs := #[.int .u64 0, .slice none 0 0, .slice none 0 0]) (t := 53) ?hr ?_; (case hd => rfl); (case hg => rfl); (case hr => first | (go_simp; done) | (go_simp; rfl)); intro gb hg wbgb hbox hb; have n0_ := Aside0.mk (below_step (by repeat (first | (with_reducible first | exact HC.out | apply below_alloc | apply pw_below_drewN | apply below_drew1) | exact HC.out)) hb); have n1_ := Aside0.mk (hbox); have n2_ := Aside0.mk (by rw [hg]; exact below_size (by repeat (first | (with_reducible first | exact HC.out | apply below_alloc | apply pw_below_drewN | apply below_drew1) | exact HC.out)) : w.heap.size ≤ gb); clear HC; have HC := n0_; have BKgb := n1_; have GEgb := n2_; clear n0_ n1_ n2_; clear hb hbox hg; have hzgb0 : wbgb.cell? ⟨gb, 0, none⟩ = some (.int .u64 0) := (blk_cell BKgb.out 0).trans rfl; have hfgb0 := blk_frozen BKgb.out 0; have hzgb1 : wbgb.cell? ⟨gb, 1, none⟩ = some (.slice none 0 0) := (blk_cell BKgb.out 1).trans rfl; have hfgb1 := blk_frozen BKgb.out 1; have hzgb2 : wbgb.cell? ⟨gb, 2, none⟩ = some (.slice none 0 0) := (blk_cell BKgb.out 2).trans rfl; have hfgb2 := blk_frozen BKgb.out 2) | (first | ((with_reducible refine gate_callee (f := 68) rfl ?_); refine goesL_ (some 11) rfl rfl Try.func68 (by kernel_rfl) rfl #[.pointer (some ⟨g, 0, none⟩), .int .u64 a] rfl (by (try simp only [List.map_toArray, List.map_cons, List.map_nil]); first | done | rfl | (simp only [List.length_drop, List.length_take]; rfl)) ?_; (with_reducible refine (heap_at g a l o wd u _ _ _ (HH.out.below (by repeat (first | (with_reducible first | exact HC.out | apply below_alloc | apply pw_below_drewN | apply below_drew1) | exact HC.out))) HI.out).mono ?_); rintro e w' ⟨rfl, ⟨nd, rfl⟩⟩; rw [HT.out]; refine ⟨_, rfl, ?_⟩)))
    refine bodyPost_ret (results_ct rfl _ _ gb 53 #[.int .u64 0, .slice none 0 0, .slice none 0 0] (0, 0) _ rfl (by refine blk_put (cs := #[.int .u64 0, .slice none 0 0, .slice none 0 0]) ?_ 2 _ rfl; refine blk_put (cs := #[.int .u64 0, .slice none 0 0, .slice none 0 0]) ?_ 1 _ rfl; refine blk_put (cs := #[.int .u64 0, .slice none 0 0, .slice none 0 0]) ?_ 0 _ rfl; (with_reducible repeat (first | refine blk_drewN ?_ _ | refine blk_drew ?_ | refine blk_alloc ?_ _)); exact BKgb.out) hu53 rfl (by kernel_rfl)) rfl ?_
    exact ⟨_, _, rfl, Kd.R_nil _ _ _ _ _, Kd.R_nil _ _ _ _ _, (by repeat (first | (with_reducible first | exact HC.out | apply below_alloc | apply pw_below_drewN | apply below_drew1 | refine below_set ?_ GEgb.out) | exact HC.out))⟩
  | true =>
    rw [ht] at HT
    obtain rfl := hix ht
    have HE : objectL l a = rd_T53 l (a / 2) := by unfold objectL; rw [ht]; rfl
    rw [HE]
    have hta := thereP_at ht
    obtain ⟨A, c, h1, h2, h3⟩ := hH
    have hc0 : w.cell? ⟨g, 0, none⟩ = some (.slice A l.length c) := (blk_cell h1 0).trans rfl
    obtain ⟨ad, A1, c1, A2, c2, e0, hx0, hx1, hx2, hl1, hi1, hl2, hi2⟩ := at_T53 h3 (a / 2) hi0 hta.2
    cases e0
    have HR1 := Aside0.mk hi1
    have HL1 := Aside0.mk hl1
    have HR2 := Aside0.mk hi2
    have HL2 := Aside0.mk hl2
    have HF := Aside0.mk (clone_f _ (HS.out.at_ (a / 2) hi0 hta.2))
    clear h1 h2 h3 hi1 hl1 hi2 hl2 ht hix HE
    go_enter Try.func47, Try.ntmps47
    go_wp2_with (first | ((with_reducible refine gate_dst (N := 4) rfl ?_); refine box_event ?hg (N := 4) ?hd (cs := #[.int .u64 0, .slice none 0 0, .slice none 0 0]) (t := 53) ?hr ?_; (case hd => rfl); (case hg => rfl); (case hr => first | (go_simp; done) | (go_simp; rfl)); intro gb hg wbgb hbox hb; have n0_ := Aside0.mk (below_step (by repeat (first | (with_reducible first | exact HC.out | apply below_alloc | apply pw_below_drewN | apply below_drew1) | exact HC.out)) hb); have n1_ := Aside0.mk (hbox); have n2_ := Aside0.mk (by rw [hg]; exact below_size (by repeat (first | (with_reducible first | exact HC.out | apply below_alloc | apply pw_below_drewN | apply below_drew1) | exact HC.out)) : w.heap.size ≤ gb); clear HC; have HC := n0_; have BKgb := n1_; have GEgb := n2_; clear n0_ n1_ n2_; clear hb hbox hg; have hzgb0 : wbgb.cell? ⟨gb, 0, none⟩ = some (.int .u64 0) := (blk_cell BKgb.out 0).trans rfl; have hfgb0 := blk_frozen BKgb.out 0; have hzgb1 : wbgb.cell? ⟨gb, 1, none⟩ = some (.slice none 0 0) := (blk_cell BKgb.out 1).trans rfl; have hfgb1 := blk_frozen BKgb.out 1; have hzgb2 : wbgb.cell? ⟨gb, 2, none⟩ = some (.slice none 0 0) := (blk_cell BKgb.out 2).trans rfl; have hfgb2 := blk_frozen BKgb.out 2; have n0_ := (HC.out.cell (World.block_lt_of_cell? w _ hc0)).trans hc0; clear hc0; have hc0 := n0_; clear n0_; have n0_ := (HC.out.cell (World.block_lt_of_cell? w _ hx0)).trans hx0; clear hx0; have hx0 := n0_; clear n0_; have n0_ := (HC.out.cell (World.block_lt_of_cell? w _ hx1)).trans hx1; clear hx1; have hx1 := n0_; clear n0_; have n0_ := (HC.out.cell (World.block_lt_of_cell? w _ hx2)).trans hx2; clear hx2; have hx2 := n0_; clear n0_) | (first | ((with_reducible refine gate_callee (f := 68) rfl ?_); refine goesL_ (some 11) rfl rfl Try.func68 (by kernel_rfl) rfl #[.pointer (some ⟨g, 0, none⟩), .int .u64 a] rfl (by (try simp only [List.map_toArray, List.map_cons, List.map_nil]); first | done | rfl | (simp only [List.length_drop, List.length_take]; rfl)) ?_; (with_reducible refine (heap_at g a l o wd u _ _ _ (HH.out.below (by repeat (first | (with_reducible first | exact HC.out | apply below_alloc | apply pw_below_drewN | apply below_drew1) | exact HC.out))) HI.out).mono ?_); rintro e w' ⟨rfl, ⟨nd, rfl⟩⟩; rw [HT.out]; refine ⟨_, rfl, ?_⟩)) | ((with_reducible refine gate_callee (f := 52) rfl ?_); refine goesL_ (some 24) rfl rfl Try.func52 (by kernel_rfl) rfl #[.agg #[.int .u64 ((rd_T53 l (a / 2)).f0), .slice A1 ((rd_T53 l (a / 2)).f1).length c1, .slice A2 ((rd_T53 l (a / 2)).f2).length c2]] rfl (by (try simp only [List.map_toArray, List.map_cons, List.map_nil]); first | done | rfl) ?_; (with_reducible refine (heap_clone.calls _ _ _ ((rd_T53 l (a / 2)).f1) _ _ ((rd_T53 l (a / 2)).f2) _ _ _ _ ?side1 ?side2 ?side3 ?side4 HF.out).mono ?_); (case side1 => exact Kd.C_below HR1.out (by repeat (first | (with_reducible first | exact HC.out | apply below_alloc | apply pw_below_drewN | apply below_drew1) | exact HC.out))); (case side2 => exact HL1.out); (case side3 => exact Kd.C_below HR2.out (by repeat (first | (with_reducible first | exact HC.out | apply below_alloc | apply pw_below_drewN | apply below_drew1) | exact HC.out))); (case side4 => exact HL2.out); rintro e w9 ⟨v1, v2, rfl, ho1, ho2, hb⟩; refine ⟨_, rfl, ?_⟩; have n0_ := Aside0.mk (row_new (B := w.heap.size) (W0 := w) ho1 (below_size (by repeat (first | (with_reducible first | exact HC.out | apply below_alloc | apply pw_below_drewN | apply below_drew1) | exact HC.out))) (Nat.le_refl _)); have n1_ := Aside0.mk (row_new (B := w.heap.size) (W0 := w) ho2 (below_size (by repeat (first | (with_reducible first | exact HC.out | apply below_alloc | apply pw_below_drewN | apply below_drew1) | exact HC.out))) (Nat.le_refl _)); have n3_ := Aside0.mk (blk_below (g := gb) (o := .cells #[.int .u64 0, .slice none 0 0, .slice none 0 0] 53 (0, 0)) (by (with_reducible repeat (first | refine blk_drewN ?_ _ | refine blk_drew ?_ | refine blk_alloc ?_ _)); exact BKgb.out) hb); have n2_ := Aside0.mk (below_step (by repeat (first | (with_reducible first | exact HC.out | apply below_alloc | apply pw_below_drewN | apply below_drew1) | exact HC.out)) hb); clear HC BKgb; have HO1 := n0_; have HO2 := n1_; have HC := n2_; have BKgb := n3_; clear n0_ n1_ n2_ n3_; clear ho1 ho2 hb hzgb0 hzgb1 hzgb2 hfgb0 hfgb1 hfgb2; have hzgb0 : w9.cell? ⟨gb, 0, none⟩ = some (.int .u64 0) := (blk_cell BKgb.out 0).trans rfl; have hfgb0 := blk_frozen BKgb.out 0; have hzgb1 : w9.cell? ⟨gb, 1, none⟩ = some (.slice none 0 0) := (blk_cell BKgb.out 1).trans rfl; have hfgb1 := blk_frozen BKgb.out 1; have hzgb2 : w9.cell? ⟨gb, 2, none⟩ = some (.slice none 0 0) := (blk_cell BKgb.out 2).trans rfl; have hfgb2 := blk_frozen BKgb.out 2; obtain ⟨Ao1, co1, eo1⟩ := Kd.R_slice HO1.out; subst eo1; obtain ⟨Ao2, co2, eo2⟩ := Kd.R_slice HO2.out; subst eo2))
    refine bodyPost_ret (results_ct rfl _ _ gb 53 #[.int .u64 (rd_T53 l (a / 2)).f0, .slice Ao1 (rd_T53 l (a / 2)).f1.length co1, .slice Ao2 (rd_T53 l (a / 2)).f2.length co2] (0, 0) _ rfl (by refine blk_put (cs := #[.int .u64 (rd_T53 l (a / 2)).f0, .slice Ao1 (rd_T53 l (a / 2)).f1.length co1, .slice none 0 0]) ?_ 2 _ rfl; refine blk_put (cs := #[.int .u64 (rd_T53 l (a / 2)).f0, .slice none 0 0, .slice none 0 0]) ?_ 1 _ rfl; refine blk_put (cs := #[.int .u64 0, .slice none 0 0, .slice none 0 0]) ?_ 0 _ rfl; (with_reducible repeat (first | refine blk_drewN ?_ _ | refine blk_drew ?_ | refine blk_alloc ?_ _)); exact BKgb.out) hu53 rfl (by kernel_rfl)) rfl ?_
    exact ⟨_, _, rfl, Kd.R_mono (Kd.R_far (p := ⟨gb, 2, none⟩) (Kd.R_far (p := ⟨gb, 1, none⟩) (Kd.R_far (p := ⟨gb, 0, none⟩) (Kd.R_types HO1.out BKgb.out (by decide)) (fun _ hk => hk.2) _) (fun _ hk => hk.2) _) (fun _ hk => hk.2) _) (fun _ hk => hk.1), Kd.R_mono (Kd.R_far (p := ⟨gb, 2, none⟩) (Kd.R_far (p := ⟨gb, 1, none⟩) (Kd.R_far (p := ⟨gb, 0, none⟩) (Kd.R_types HO2.out BKgb.out (by decide)) (fun _ hk => hk.2) _) (fun _ hk => hk.2) _) (fun _ hk => hk.2) _) (fun _ hk => hk.1), (by repeat (first | (with_reducible first | exact HC.out | apply below_alloc | apply pw_below_drewN | apply below_drew1 | refine below_set ?_ GEgb.out) | exact HC.out))⟩
end Go.Proofs.Ytiokegmpooildaa.Hp
