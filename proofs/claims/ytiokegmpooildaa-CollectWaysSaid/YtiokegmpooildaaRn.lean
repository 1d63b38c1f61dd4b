/- collect.Run. -/
import Derived.Test.YtiokegmpooildaaOf1
import Derived.Test.YtiokegmpooildaaSt
import Derived.Test.YtiokegmpooildaaKr
import Derived.Test.YtiokegmpooildaaHs
import Derived.Deep.Cut
namespace Go.Proofs.Ytiokegmpooildaa.Hp
open Go.RowKit Go.Proofs.YtiokegmpooildaaW.PrintWords Go.Proofs.YtiokegmpooildaaW.PrintLast Go.Proofs.YtiokegmpooildaaW.PrintMore Go.Proofs.Ytiokegmpooildaa.PAll
set_option linter.unusedVariables false
set_option linter.unusedSimpArgs false
theorem S_slot_ok {W : World} {base g n cap : Nat} {ok : Nat → Prop} {xs : List S53} (h : Kd.S k53 53 W base ok (.slice (some ⟨g, 0, none⟩) n cap) xs) (i : Int) (h0 : 0 ≤ i) (h1 : i < n) (h2 : 0 < (rd_T53 xs i).f1.length) :
    ∃ b c1, W.cell? ⟨g, i.toNat * 3 + 1, none⟩ = some (.slice (some ⟨b, 0, none⟩) (rd_T53 xs i).f1.length c1) ∧ ok b := by
  obtain ⟨oki, c, hcl, hM, hcc, hoki, hback⟩ := Kd.S_borrow h z53 i h0 h1
  obtain ⟨v1, v2, rfl, g1, g2⟩ := k53_openM hM
  obtain ⟨b, c1, rfl, hb, _, cells, hbk⟩ := Kd.R_form g1 h2
  have hob : oki b := g1.1 b (by simp [Value.ownBlock])
  refine ⟨b, c1, ?_, (hoki b hob).1⟩
  have := hcc 1 _ rfl
  rw [add_at, Nat.zero_add] at this
  exact this
theorem MapW.at_ {W W' : World} {b n : Nat} {m : Int → Option Int} (h : MapW W b n m) (e : W'.heap[b]? = W.heap[b]?) : MapW W' b n m := by
  obtain ⟨D, ⟨es, clock, hb, hr⟩, h2⟩ := h
  exact ⟨D, ⟨es, clock, e.trans hb, hr⟩, h2⟩
theorem set_self53' (l : List S53) (x : Int) (h0 : 0 ≤ x) (h1 : x < (l.length : Int)) : l.set x.toNat (rd_T53 l x) = l := by
  unfold rd_T53
  rw [List.getD_eq_getElem?_getD, List.getElem?_eq_getElem (by omega)]
  exact List.set_getElem_self (by omega)
theorem info36_ : (Try.prog.info? 36).map (fun i => (i.zero, i.size, i.bytes)) = some (some (.int .u64 0), 1, 8) := by kernel_rfl
theorem keptL_small {m : Int → Option Int} {l : List S53} {ns : List Int} (hs : SmallL l) (hn : ns.length ≤ 5000) (hr : ∀ a ∈ ns, 0 ≤ a ∧ a < (l.length : Int)) : SmallL (keptL m l ns) := by
  refine ⟨by unfold keptL; rw [List.length_map]; exact hn, fun x hx => ?_⟩
  obtain ⟨i, hi, rfl⟩ := List.mem_map.1 hx
  have := hs.at_ i (hr i hi).1 (hr i hi).2
  unfold turnO
  rw [List.length_map]
  exact this
theorem keptL_words {m : Int → Option Int} {l : List S53} {ns : List Int} (hw : WordsL l) (hm : WordM m) (hr : ∀ a ∈ ns, 0 ≤ a ∧ a < (l.length : Int)) : WordsL (keptL m l ns) := by
  intro x hx
  obtain ⟨i, hi, rfl⟩ := List.mem_map.1 hx
  have := hw _ (rdT_mem (hr i hi).1 (hr i hi).2)
  refine ⟨turn1_W hm this.1, fun a ha => ?_⟩
  obtain ⟨c, hc, rfl⟩ := List.mem_map.1 (show a ∈ (rd_T53 l i).f1.map (turn1 m) from ha)
  exact turn1_W hm (this.2 c hc)
def rn.T14 : Bool × List (List Nat × List Nat) := (true, [([], []), ([0], [0]), ([], []), ([], []), ([], []), ([3, 4], [3, 4]), ([1, 2, 0, 1, 2, 3, 4, 5], [1, 2]), ([6, 5, 5, 0, 1, 2, 3, 4, 5], [5, 6])])
def rn.B14 : List Nat := [0, 1, 0, 0, 0, 24, 63, 127]
theorem rn.tab14 : rtab .any (opsOf Try.f36 14) = rn.T14 := by kernel_rfl
theorem rn.bits14 : waitsOk rn.T14.2 rn.B14 = true := by kernel_rfl
set_option maxHeartbeats 16000000 in
set_option maxRecDepth 100000 in
theorem collect_run (g : Nat) (Ar : Option Addr) (cr : Nat) (roots : List Int) (l : List S53) (o wd u : Int) (bs : List Bool) (K : Nat) (w : World) (hH : HeapC w g l o wd u) (hs : SmallL l) (hW : WordsL l) (hro : roomP o wd) (hR : Kd.C (Kd.int .u64) w Ar roots.length roots) (hc : roots.length ≤ cr)
    (hrl : roots.length ≤ 100000) (hrw : ∀ a ∈ roots, W64 a) (hm : collect_marks.f K l roots = some bs) (hbl : bs.length = l.length) (hne : l ≠ []) (he : ofErr (keptL (movedF (numsF bs 0)) l (numsF bs 0)) o wd = 0) :
    Calls Try.prog 36 #[.pointer (some ⟨g, 0, none⟩), .slice Ar roots.length cr] w fun e w' => ∃ gn At ct, e = .returned (.tuple #[.pointer (some ⟨gn, 0, none⟩), .slice At roots.length ct, .int .i64 0]) ∧ HeapC w' gn (keptL (movedF (numsF bs 0)) l (numsF bs 0)) o wd (usedL (keptL (movedF (numsF bs 0)) l (numsF bs 0))) ∧
      Kd.C (Kd.int .u64) w' At roots.length (roots.map (turn1 (movedF (numsF bs 0)))) ∧ roots.length ≤ ct ∧ Below w.heap.size w w' := by
  have HH := Aside0.mk hH
  have HS := Aside0.mk hs
  have HW := Aside0.mk hW
  have HRO := Aside0.mk hro
  have HR := Aside0.mk hR
  have HCR := Aside0.mk hc
  have HRW := Aside0.mk hrw
  have HMK := Aside0.mk hm
  have hl5 : l.length ≤ 5000 := hs.1
  have HBL := Aside0.mk (show bs.length ≤ 5000 by omega)
  have HNE := Aside0.mk (show 0 < l.length from List.length_pos_iff.2 hne)
  have HE := Aside0.mk he
  clear hH hs hW hro hR hc hrw hm hne he
  have HC := Aside0.mk (Below.refl w.heap.size w)
  have HSO := Aside0.mk (numsF_sorted bs 0)
  have HGE := Aside0.mk (show ∀ a ∈ numsF bs 0, 0 ≤ a ∧ a < (l.length : Int) from fun a ha => by have := numsF_ge bs 0 a ha; omega)
  have hnl : (numsF bs 0).length ≤ 5000 := Nat.le_trans (numsF_length bs 0) (by omega)
  have HWM := Aside0.mk (movedF_word (numsF bs 0) hnl)
  go_enter Try.func36, Try.ntmps36
  go_wp2_with (first | (go_at_call 39; (with_reducible refine (collect_moved g Ar cr roots l o wd u bs K _ (HH.out.below (by repeat (first | (with_reducible first | exact HC.out | apply below_alloc | apply pw_below_drewN | apply below_drew1) | exact HC.out))) HS.out (Kd.C_below HR.out (by repeat (first | (with_reducible first | exact HC.out | apply below_alloc | apply pw_below_drewN | apply below_drew1) | exact HC.out))) HCR.out HMK.out HBL.out).mono ?_); rintro e w' ⟨b, rfl, hgb, hM, hb⟩; have HM := Aside0.mk hM.toW; have GB := Aside0.mk (Nat.le_trans (below_size (by repeat (first | (with_reducible first | exact HC.out | apply below_alloc | apply pw_below_drewN | apply below_drew1) | exact HC.out))) hgb); have n0_ := Aside0.mk (below_step (by repeat (first | (with_reducible first | exact HC.out | apply below_alloc | apply pw_below_drewN | apply below_drew1) | exact HC.out)) hb); clear HC; have HC := n0_; clear n0_ hM hgb hb) | (go_at_call 18; (with_reducible refine (heap_Objects g l o wd u _ (HH.out.below (by repeat (first | (with_reducible first | exact HC.out | apply below_alloc | apply pw_below_drewN | apply below_drew1) | exact HC.out))) HS.out).mono ?_); rintro e w' ⟨v, rfl, hS, hb⟩; obtain ⟨Bl, hS2, hbl, hwb⟩ : ∃ Bl, Kd.S k53 53 w' Bl (fun _ => True) v l ∧ b < Bl ∧ w.heap.size ≤ Bl := ⟨_, hS, Nat.lt_of_lt_of_le HM.out.lt (below_size (by repeat (first | (with_reducible first | exact Below.refl _ _ | apply below_alloc | apply pw_below_drewN | apply below_drew1) | exact Below.refl _ _))), below_size (by repeat (first | (with_reducible first | exact HC.out | apply below_alloc | apply pw_below_drewN | apply below_drew1) | exact HC.out))⟩; obtain ⟨gl, cl, rfl, hgl, hgw, _⟩ := Kd.S_form hS2 HNE.out; have HL := Aside0.mk hS2; have HBB := Aside0.mk hbl; have HWB := Aside0.mk hwb; have HGL := Aside0.mk hgl; have n1_ := Aside0.mk (HM.out.below (below_step (by repeat (first | (with_reducible first | exact Below.refl _ _ | apply below_alloc | apply pw_below_drewN | apply below_drew1) | exact Below.refl _ _)) hb)); have n0_ := Aside0.mk (below_step (by repeat (first | (with_reducible first | exact HC.out | apply below_alloc | apply pw_below_drewN | apply below_drew1) | exact HC.out)) hb); clear HC HM; have HC := n0_; have HM := n1_; clear n0_ n1_ hS hS2 hbl hwb hgl hgw hb) | (go_at_call 35; (with_reducible refine (collect_reached g Ar cr roots l o wd u bs K _ (HH.out.below (by repeat (first | (with_reducible first | exact HC.out | apply below_alloc | apply pw_below_drewN | apply below_drew1) | exact HC.out))) HS.out (Kd.C_below HR.out (by repeat (first | (with_reducible first | exact HC.out | apply below_alloc | apply pw_below_drewN | apply below_drew1) | exact HC.out))) HCR.out HMK.out HBL.out).mono ?_); rintro e w' ⟨v, rfl, hS, hb⟩; obtain ⟨Nl, hN2, hL2, hnn0⟩ : ∃ Nl, Kd.R (Kd.int .i64) 3 w' Nl (fun _ => True) v (numsF bs 0) ∧ Kd.S k53 53 w' Bl (fun k => k < Nl) (.slice (some ⟨gl, 0, none⟩) l.length cl) l ∧ Nl ≤ w'.heap.size := ⟨_, hS, Kd.S_mono (Kd.S_old (Kd.S_below HL.out (by repeat (first | (with_reducible first | exact Below.refl _ _ | apply below_alloc | apply pw_below_drewN | apply below_drew1) | exact Below.refl _ _))) hb) (fun _ h => h.2), hb.size⟩; have HNS0 := Aside0.mk hnn0; obtain ⟨hgn, hbn⟩ : gl < Nl ∧ Bl ≤ Nl := by { have h_ : gl < Nl := (Kd.S_R hL2).1 gl (by simp [Value.ownBlock]); have := HGL.out; exact ⟨h_, by omega⟩ }; have HGN := Aside0.mk hgn; have n0_ := Aside0.mk (below_step (by repeat (first | (with_reducible first | exact HC.out | apply below_alloc | apply pw_below_drewN | apply below_drew1) | exact HC.out)) hb); have n1_ := Aside0.mk (HM.out.below (below_step (by repeat (first | (with_reducible first | exact Below.refl _ _ | apply below_alloc | apply pw_below_drewN | apply below_drew1) | exact Below.refl _ _)) hb)); clear HC HM HL; have HC := n0_; have HM := n1_; have HL := Aside0.mk hL2; have HBN := Aside0.mk hbn; obtain ⟨AN, cN, rfl⟩ := Kd.R_slice hN2; have HN := Aside0.mk hN2; clear n0_ n1_ hS hb hL2 hbn hgn hN2 hnn0))
  obtain ⟨ns, hns⟩ : ∃ ns, ns = numsF bs 0 := ⟨_, rfl⟩
  rw [← hns] at HN HSO HGE hnl HM HWM HE ⊢
  obtain ⟨m, hm⟩ : ∃ m, m = movedF ns := ⟨_, rfl⟩
  rw [← hm] at HM HWM HE
  have HMM := Aside0.mk hm
  have HNS := Aside0.mk hns
  clear hns hm
  obtain ⟨wl, hwl⟩ : ∃ wl : World, wl = w' := ⟨_, rfl⟩
  rw [← hwl] at HC HM HL HN HNS0 ⊢
  clear hwl
  obtain ⟨N, hN⟩ : ∃ N, N = wl.heap.size := ⟨_, rfl⟩
  have HNL := Aside0.mk hN
  have HNN := Aside0.mk (show Nl ≤ N from by rw [hN]; exact HNS0.out)
  have n0_ := Aside0.mk (Kd.R_mono (ok' := fun k => Nl ≤ k ∧ k < N) (Kd.R_bound HN.out) (fun k hk => ⟨hk.2.1, by rw [hN]; exact hk.2.2.1⟩))
  clear HN hN HNS0
  have HN := n0_
  clear n0_
  obtain ⟨h1, hh1⟩ : ∃ h1 : Int → Value, ∀ i, h1 i = (wl.cell? ⟨gl, i.toNat * 3 + 1, none⟩).getD undef := ⟨_, fun _ => rfl⟩
  obtain ⟨h2, hh2⟩ : ∃ h2 : Int → Value, ∀ i, h2 i = (wl.cell? ⟨gl, i.toNat * 3 + 2, none⟩).getD undef := ⟨_, fun _ => rfl⟩
  have HH1 := Aside0.mk hh1
  have HH2 := Aside0.mk hh2
  clear hh1 hh2
  have HB := Aside0.mk (Below.refl Bl wl)
  go_loopg [9, 33] ns.length (fun kq v9 v33 w' => ∃ (x : Int), v33 = .int .i64 x ∧ 0 ≤ x ∧ x ≤ ns.length ∧ Aside0 ((kq : Int) + x = ns.length) ∧ Aside0 (Kd.S k53 53 w' Bl (fun k => k < Nl) (.slice (some ⟨gl, 0, none⟩) l.length cl) (slotsL m l (ns.take x.toNat))) ∧ Aside0 (w'.heap[gl]? = wl.heap[gl]?) ∧ Aside0 (Kd.R kraw 53 w' N (fun k => N ≤ k) v9 ((ns.take x.toNat).map (fun i => (turn1 m (rd_T53 l i).f0, h1 i, h2 i)))) ∧ Aside0 (Kd.R (Kd.int .i64) 3 w' Nl (fun k => Nl ≤ k ∧ k < N) (.slice AN ns.length cN) ns) ∧ Aside0 (Below Bl wl w'))
  case atStart => exact ⟨0, rfl, by omega, by omega, ⟨by simp⟩, HL, ⟨rfl⟩, ⟨Kd.R_nil _ _ _ _ _⟩, HN, HB⟩
  case round =>
    clear HL HN HB
    obtain ⟨x, rfl, p0, p1, HK, HL, HG, HKP, HN, HB⟩ := hrel
    have HMr := Aside0.mk (show MapW wr b _ m from HM.out.at_ (HB.out.block b HBB.out))
    by_cases hlt : x < (ns.length : Int)
    · have c3b0 : decide (x < (ns.length : Int)) = true := decide_eq_true hlt
      obtain ⟨i, hi_⟩ : ∃ i, i = rd ns x := ⟨_, rfl⟩
      have hir := HGE.out _ (rd_mem p0 hlt)
      obtain ⟨adn, e0n, hwn⟩ := Kd.at_int (Kd.R_reads' HN.out).2.2 x p0 hlt
      cases e0n
      rw [← hi_] at hir hwn
      have HI := Aside0.mk hi_
      have HSN := Aside0.mk (take_snoc ns x p0 hlt)
      rw [← hi_] at HSN
      have hno : ¬ i ∈ ns.take x.toNat := fun hmem => by have := sorted_fresh HSO.out x p0 hlt i hmem; omega
      have HSL := Aside0.mk (slotsL_all m l _ (ns.take x.toNat) (Nat.le_refl _) (fun a ha => HGE.out a (List.mem_of_mem_take ha)))
      have HXI := Aside0.mk (show rd_T53 (slotsL m l (ns.take x.toNat)) i = rd_T53 l i by rw [HSL.out.2 i hir.1 hir.2, if_neg hno])
      have HNXS := Aside0.mk (show slotsL m l (ns.take (x + 1).toNat) = (slotsL m l (ns.take x.toNat)).set i.toNat (turnF m (rd_T53 l i)) by rw [HSN.out]; exact slotsL_snoc m l _ i)
      clear hi_ hno
      obtain ⟨ad, A1, c1, A2, c2, e0, hx0, hx1, hx2, hl1, hi1, hl2, hi2⟩ := at_T53 (Kd.S_reads' HL.out).2.2 i hir.1 (by rw [HSL.out.1]; exact hir.2)
      injection e0 with e0
      subst e0
      rw [HXI.out] at hx0 hx1 hx2
      have hea : (Addr.add ⟨gl, 0, none⟩ (i.toNat * 3)) = (⟨gl, i.toNat * 3, none⟩ : Addr) := by rw [add_at, Nat.zero_add]
      rw [hea] at hx0 hx1 hx2
      replace hx1 : wr.cell? ⟨gl, i.toNat * 3 + 1, none⟩ = some (.slice A1 (rd_T53 l i).f1.length c1) := hx1
      replace hx2 : wr.cell? ⟨gl, i.toNat * 3 + 2, none⟩ = some (.slice A2 (rd_T53 l i).f2.length c2) := hx2
      have HX1 := Aside0.mk hx1
      have HX2 := Aside0.mk hx2
      clear hl1 hi1 hl2 hi2 hea
      have p0' : (0 ≤ x) = True := eq_true p0
      have p1' : (x < (ns.length : Int)) = True := eq_true hlt
      have i0' : (0 ≤ i) = True := eq_true hir.1
      have i1' : (i < (l.length : Int)) = True := eq_true hir.2
      have HWx := Aside0.mk (HW.out _ (rdT_mem hir.1 hir.2))
      have HC := Aside0.mk (Below.refl wr.heap.size wr)
      have HIR := Aside0.mk hir
      have HGR := Aside0.mk (show gl < wr.heap.size from (World.block_lt_of_cell? wr _ hx1))
      go_upto_region 10 with (first | ((with_reducible refine gate_dst (N := 12) rfl ?_); refine box_event ?hg (N := 12) ?hd (cs := #[.int .u64 0, .slice none 0 0, .slice none 0 0]) (t := 53) ?hr ?_; (case hd => rfl); (case hg => rfl); (case hr => first | (go_simp; done) | (go_simp; rfl)); intro gb hg wbgb hbox hb; have n0_ := Aside0.mk (below_step (by repeat (first | (with_reducible first | exact HC.out | apply below_alloc | apply pw_below_drewN | apply below_drew1) | exact HC.out)) hb); have n1_ := Aside0.mk (hbox); have n2_ := Aside0.mk (by rw [hg]; exact below_size (by repeat (first | (with_reducible first | exact HC.out | apply below_alloc | apply pw_below_drewN | apply below_drew1) | exact HC.out)) : wr.heap.size ≤ gb); clear HC; have HC := n0_; have BKgb := n1_; have GEgb := n2_; clear n0_ n1_ n2_; clear hb hbox hg; have hzgb0 : wbgb.cell? ⟨gb, 0, none⟩ = some (.int .u64 0) := (blk_cell BKgb.out 0).trans rfl; have hfgb0 := blk_frozen BKgb.out 0; have hzgb1 : wbgb.cell? ⟨gb, 1, none⟩ = some (.slice none 0 0) := (blk_cell BKgb.out 1).trans rfl; have hfgb1 := blk_frozen BKgb.out 1; have hzgb2 : wbgb.cell? ⟨gb, 2, none⟩ = some (.slice none 0 0) := (blk_cell BKgb.out 2).trans rfl; have hfgb2 := blk_frozen BKgb.out 2))
      have n0_ := Aside0.mk (show (((wbgb.setCell ⟨gb, 0, none⟩ (.int .u64 (rd_T53 l i).f0)).setCell ⟨gb, 1, none⟩ (.slice A1 (rd_T53 l i).f1.length c1)).setCell ⟨gb, 2, none⟩ (.slice A2 (rd_T53 l i).f2.length c2)).heap[gb]? = some (.cells #[.int .u64 (rd_T53 l i).f0, .slice A1 (rd_T53 l i).f1.length c1, .slice A2 (rd_T53 l i).f2.length c2] 53 (0, 0)) from blk_put (cs := #[.int .u64 (rd_T53 l i).f0, .slice A1 (rd_T53 l i).f1.length c1, .slice none 0 0]) (blk_put (cs := #[.int .u64 (rd_T53 l i).f0, .slice none 0 0, .slice none 0 0]) (blk_put (cs := #[.int .u64 0, .slice none 0 0, .slice none 0 0]) BKgb.out 0 _ rfl) 1 _ rfl) 2 _ rfl)
      have n1_ := Aside0.mk (show Below wr.heap.size wr (((wbgb.setCell ⟨gb, 0, none⟩ (.int .u64 (rd_T53 l i).f0)).setCell ⟨gb, 1, none⟩ (.slice A1 (rd_T53 l i).f1.length c1)).setCell ⟨gb, 2, none⟩ (.slice A2 (rd_T53 l i).f2.length c2)) from by repeat (first | (with_reducible first | exact HC.out | refine below_set ?_ GEgb.out) | exact HC.out))
      clear HC BKgb hzgb0 hzgb1 hzgb2 hfgb0 hfgb1 hfgb2 hwn hx0 hx1 hx2
      generalize hw_ : (((wbgb.setCell ⟨gb, 0, none⟩ (.int .u64 (rd_T53 l i).f0)).setCell ⟨gb, 1, none⟩ (.slice A1 (rd_T53 l i).f1.length c1)).setCell ⟨gb, 2, none⟩ (.slice A2 (rd_T53 l i).f2.length c2)) = W1 at n0_ n1_ ⊢
      clear hw_
      have BK := n0_
      have HBr := n1_
      clear n0_ n1_
      have hz0 : W1.cell? ⟨gb, 0, none⟩ = some (.int .u64 (rd_T53 l i).f0) := (blk_cell BK.out 0).trans rfl
      have hf0 := blk_frozen BK.out 0
      go_upto_region 11 with (first | (go_at_call 70; (with_reducible refine (collect_turned b _ m (rd_T53 l i).f0 _ ((HMr.out.below HBr.out).below (by repeat (first | (with_reducible first | exact Below.refl _ _ | apply below_alloc | apply pw_below_drewN | apply below_drew1) | exact Below.refl _ _))) HWx.out.1).mono ?_); rintro e w' ⟨rfl, ⟨nd, rfl⟩⟩))
      have n0_ := Aside0.mk (show ((W1.drewN nd).setCell ⟨gb, 0, none⟩ (.int .u64 ((m (rd_T53 l i).f0).getD (rd_T53 l i).f0))).heap[gb]? = some (.cells #[.int .u64 (turn1 m (rd_T53 l i).f0), .slice A1 (rd_T53 l i).f1.length c1, .slice A2 (rd_T53 l i).f2.length c2] 53 (0, 0)) from blk_put (cs := #[.int .u64 (rd_T53 l i).f0, .slice A1 (rd_T53 l i).f1.length c1, .slice A2 (rd_T53 l i).f2.length c2]) (blk_drewN BK.out nd) 0 _ rfl)
      have n1_ := Aside0.mk (show Below wr.heap.size wr ((W1.drewN nd).setCell ⟨gb, 0, none⟩ (.int .u64 ((m (rd_T53 l i).f0).getD (rd_T53 l i).f0))) from below_set (pw_below_drewN HBr.out nd) GEgb.out)
      clear BK HBr hz0 hf0
      generalize hw_ : ((W1.drewN nd).setCell ⟨gb, 0, none⟩ (.int .u64 ((m (rd_T53 l i).f0).getD (rd_T53 l i).f0))) = W2 at n0_ n1_ ⊢
      clear hw_
      have n2_ := Aside0.mk (Kd.S_below HL.out n1_.out)
      have n3_ := Aside0.mk ((n1_.out.block gl HGR.out).trans HG.out)
      have n4_ := Aside0.mk (Kd.R_below HKP.out n1_.out)
      have n5_ := Aside0.mk (Kd.R_below HN.out n1_.out)
      have n6_ := Aside0.mk (HB.out.trans (n1_.out.mono (by have := HGL.out; have := HGR.out; omega)))
      have n7_ := Aside0.mk (show N ≤ gb from by have h_ := HB.out.size; have h2_ := GEgb.out; have h3_ := HNL.out; omega)
      have n8_ := Aside0.mk ((n1_.out.cell (p := ⟨gl, i.toNat * 3 + 1, none⟩) HGR.out).trans HX1.out)
      have n9_ := Aside0.mk ((n1_.out.cell (p := ⟨gl, i.toNat * 3 + 2, none⟩) HGR.out).trans HX2.out)
      clear HL HG HKP HN HB HX1 HX2 GEgb HGR HMr
      have BK := n0_
      have HL := n2_
      have HG := n3_
      have HKP := n4_
      have HN := n5_
      have HB := n6_
      have HGE2 := n7_
      have HX1 := n8_
      have HX2 := n9_
      clear n0_ n1_ n2_ n3_ n4_ n5_ n6_ n7_ n8_ n9_
      have HV1 := Aside0.mk (show h1 i = .slice A1 (rd_T53 l i).f1.length c1 from by
        have h_ : wl.cell? ⟨gl, i.toNat * 3 + 1, none⟩ = W2.cell? ⟨gl, i.toNat * 3 + 1, none⟩ := World.cell?_of_block HG.out.symm
        rw [HH1.out i, h_, HX1.out]
        rfl)
      have HV2 := Aside0.mk (show h2 i = .slice A2 (rd_T53 l i).f2.length c2 from by
        have h_ : wl.cell? ⟨gl, i.toNat * 3 + 2, none⟩ = W2.cell? ⟨gl, i.toNat * 3 + 2, none⟩ := World.cell?_of_block HG.out.symm
        rw [HH2.out i, h_, HX2.out]
        rfl)
      have HXL1 := Aside0.mk (show wl.cell? ⟨gl, i.toNat * 3 + 1, none⟩ = some (.slice A1 (rd_T53 l i).f1.length c1) from (World.cell?_of_block HG.out.symm).trans HX1.out)
      clear HX1 HX2
      obtain ⟨kk, hkk⟩ : ∃ kk, kk = ((ns.take x.toNat).map (fun i => (turn1 m (rd_T53 l i).f0, h1 i, h2 i))) := ⟨_, rfl⟩
      rw [← hkk] at HKP
      have HKL : kk.length ≤ 5000 := by rw [hkk, List.length_map, List.length_take]; omega
      have HKN := Aside0.mk (show (ns.take (x + 1).toNat).map (fun i => (turn1 m (rd_T53 l i).f0, h1 i, h2 i)) = kk ++ [(fun i => (turn1 m (rd_T53 l i).f0, h1 i, h2 i)) i] by rw [HSN.out, List.map_append, ← hkk]; rfl)
      clear hkk
      have hfb := (HS.out.at_ i HIR.out.1 HIR.out.2).1
      obtain ⟨ys, hys⟩ : ∃ ys, ys = slotsL m l (ns.take x.toNat) := ⟨_, rfl⟩
      rw [← hys] at HL HSL HXI HNXS
      obtain ⟨f1, hf1⟩ : ∃ f1, f1 = (rd_T53 l i).f1 := ⟨_, rfl⟩
      obtain ⟨f2, hf2⟩ : ∃ f2, f2 = (rd_T53 l i).f2 := ⟨_, rfl⟩
      obtain ⟨c0, hc0⟩ : ∃ c0, c0 = (rd_T53 l i).f0 := ⟨_, rfl⟩
      obtain ⟨tc, htc⟩ : ∃ tc, tc = (turn1 m (rd_T53 l i).f0) := ⟨_, rfl⟩
      have BK' := Aside0.mk (show W2.heap[gb]? = some (.cells #[.int .u64 tc, .slice A1 f1.length c1, .slice A2 f2.length c2] 53 (0, 0)) by rw [hf1, hf2, htc]; exact BK.out)
      have HRI := Aside0.mk (show rd_T53 ys i = ⟨c0, f1, f2⟩ by rw [HXI.out, hc0, hf1, hf2])
      have HYL := Aside0.mk (show ys.length = l.length from HSL.out.1)
      have HNX2 := Aside0.mk (show slotsL m l (ns.take (x + 1).toNat) = ys.set i.toNat (⟨c0, f1.map (turn1 m), f2⟩ : S53) by rw [HNXS.out, hc0, hf1, hf2]; rfl)
      have HWf := Aside0.mk (show ∀ a ∈ f1, W64 a by rw [hf1]; exact HWx.out.2)
      have HVR := Aside0.mk (show (turn1 m (rd_T53 l i).f0, h1 i, h2 i) = (tc, Value.slice A1 f1.length c1, Value.slice A2 f2.length c2) by rw [HV1.out, HV2.out, htc, hf1, hf2])
      rw [← hf1] at hfb HXL1
      have hz1 : W2.cell? ⟨gb, 1, none⟩ = some (.slice A1 f1.length c1) := (blk_cell BK'.out 1).trans rfl
      clear BK
      have BK := BK'
      clear BK' hys hf1 hf2 hc0 htc HXI HNXS HSL HV1 HV2 HWx
      obtain ⟨wo, rfl⟩ : ∃ wo : World, wo = W2 := ⟨_, rfl⟩
      obtain ⟨ko, hko⟩ : ∃ ko : Nat, ko = gk := ⟨_, rfl⟩
      go_wp2_with (fail)
      go_loopg [49] f1.length (fun kq v49 w' => ∃ y : Int, v49 = .int .i64 y ∧ 0 ≤ y ∧ y ≤ f1.length ∧ Aside0 ((kq : Int) + y = f1.length) ∧ Aside0 (Kd.S k53 53 w' Bl (fun k => k < Nl) (.slice (some ⟨gl, 0, none⟩) l.length cl) (ys.set i.toNat (⟨c0, turnS m f1 y.toNat, f2⟩ : S53))) ∧ Aside0 (w'.heap[gl]? = wl.heap[gl]?) ∧ Aside0 (w'.heap[gb]? = some (.cells #[.int .u64 tc, .slice A1 f1.length c1, .slice A2 f2.length c2] 53 (0, 0))) ∧ Aside0 (Kd.R kraw 53 w' N (fun k => N ≤ k) u9 kk) ∧ Aside0 (Kd.R (Kd.int .i64) 3 w' Nl (fun k => Nl ≤ k ∧ k < N) (.slice (some adn) ns.length cN) ns) ∧ Aside0 (Below Bl wl w'))
      case atStart => exact ⟨0, rfl, by omega, by omega, ⟨by simp⟩, ⟨by have e_ : ys.set i.toNat (⟨c0, turnS m f1 (0 : Int).toNat, f2⟩ : S53) = ys := (by rw [show turnS m f1 (0 : Int).toNat = f1 by unfold turnS; simp, ← HRI.out]; exact set_self53' ys i HIR.out.1 (by rw [HYL.out]; exact HIR.out.2)); rw [e_]; exact HL.out⟩, HG, BK, HKP, HN, HB⟩
      case round =>
        clear HL HG BK HKP HN HB hz1
        obtain ⟨y, rfl, y0, y1, HKy, HL, HG, BK, HKP, HN, HB⟩ := hrel
        have HMr := Aside0.mk (show MapW wr b _ m from HM.out.at_ (HB.out.block b HBB.out))
        have hz1 : wr.cell? ⟨gb, 1, none⟩ = some (.slice A1 f1.length c1) := (blk_cell BK.out 1).trans rfl
        by_cases hly : y < (f1.length : Int)
        · have d3b0 : decide (y < (f1.length : Int)) = true := decide_eq_true hly
          obtain ⟨ts, hts⟩ : ∃ ts, ts = turnS m f1 y.toNat := ⟨_, rfl⟩
          have HTL := Aside0.mk (show ts.length = f1.length by rw [hts]; exact turnS_length m f1 y.toNat)
          have HTA := Aside0.mk (show rd ts y = rd f1 y by rw [hts]; exact turnS_at m f1 y y0 hly)
          have HTN := Aside0.mk (show ts.set y.toNat (turn1 m (rd f1 y)) = turnS m f1 (y + 1).toNat by rw [hts]; exact turnS_next m f1 y y0 hly)
          rw [← hts] at HL
          clear hts
          obtain ⟨cur, hcur⟩ : ∃ cur, cur = ys.set i.toNat (⟨c0, ts, f2⟩ : S53) := ⟨_, rfl⟩
          have HCX := Aside0.mk (show rd_T53 cur i = ⟨c0, ts, f2⟩ by rw [hcur]; unfold rd_T53; rw [List.getD_eq_getElem?_getD, List.getElem?_set_self (by rw [HYL.out]; have := HIR.out; omega)]; rfl)
          have HCN := Aside0.mk (show cur.set i.toNat (⟨c0, ts.set y.toNat (turn1 m (rd f1 y)), f2⟩ : S53) = ys.set i.toNat (⟨c0, turnS m f1 (y + 1).toNat, f2⟩ : S53) by rw [hcur, List.set_set, HTN.out])
          rw [← hcur] at HL
          clear hcur
          have HIN := Aside0.mk (show y < ((rd_T53 cur i).f1.length : Int) by rw [HCX.out]; show y < (ts.length : Int); rw [HTL.out]; exact hly)
          have HWy := Aside0.mk (HWf.out (rd f1 y) (rd_mem y0 hly))
          obtain ⟨bb, cc1, s1, s2, s3, s4, s5, _, _⟩ := S_slot HL.out i HIR.out.1 HIR.out.2 y y0 HIN.out 0
          obtain ⟨b3, cc3, o1, o2⟩ := S_slot_ok HL.out i HIR.out.1 HIR.out.2 (by have := HIN.out; omega)
          rw [HCX.out] at s1 s4
          have hhd : wr.cell? ⟨gl, i.toNat * 3 + 1, none⟩ = some (.slice A1 f1.length c1) := (World.cell?_of_block HG.out).trans HXL1.out
          have hA1 : A1 = some ⟨bb, 0, none⟩ := by have h_ := Option.some.inj (hhd.symm.trans s1); injection h_ with h_ _ _
          have hb3 : b3 = bb := by have h_ := Option.some.inj (hhd.symm.trans o1); injection h_ with h_ _ _; rw [hA1] at h_; injection h_ with h_; injection h_ with h_; exact h_.symm
          subst hb3
          subst hA1
          have HOK := Aside0.mk (show b3 < Nl from o2)
          have HHD := Aside0.mk hhd
          have hcy : wr.cell? ⟨b3, y.toNat, none⟩ = some (.int .u64 (rd f1 y)) := by rw [← HTA.out]; exact s4
          have qy0 : (0 ≤ y) = True := eq_true y0
          have qy1 : (y < (f1.length : Int)) = True := eq_true hly
          clear s1 s2 s3 s4 s5 o1 o2 hhd
          go_wp2_with (fail)
          refine start_ (n := 8) (S := fun w' => w'.cell? ⟨gb, 1, none⟩ = some (.slice (some ⟨b3, 0, none⟩) f1.length c1)) (ds := [7]) #[false, false, false, false, false, false, false, false] (by kernel_rfl) rfl rfl ((blk_cell (blk_drew BK.out) 1).trans rfl) (fun hHeld => ?_); refine with_tabW rn.tab14 rn.bits14 (fun HT_ HW_ => ?_)
          have n0_ := Aside0.mk (Kd.S_drew HL.out)
          have n1_ := Aside0.mk (show wr.drew.heap[gl]? = wl.heap[gl]? from HG.out)
          have n2_ := Aside0.mk (blk_drew BK.out)
          have n3_ := Aside0.mk (Kd.R_drew HKP.out)
          have n4_ := Aside0.mk (Kd.R_drew HN.out)
          have n5_ := Aside0.mk (below_drew HB.out)
          have n6_ := Aside0.mk (show MapW wr.drew b _ m from HMr.out.at_ rfl)
          generalize hw_ : wr.drew = w5 at n0_ n1_ n2_ n3_ n4_ n5_ n6_ hHeld ⊢
          clear hw_ HL HG BK HKP HN HB HMr
          have HL := n0_
          have HG := n1_
          have BK := n2_
          have HKP := n3_
          have HN := n4_
          have HB := n5_
          have HMr := n6_
          clear n0_ n1_ n2_ n3_ n4_ n5_ n6_
          refine pure_ (i := 0) (N := some 54) (v := ?_) (a' := ?_) #[true, false, false, false, false, false, false, false] rfl rfl (any_of HT_.out (by kernel_rfl)) (fun _ _ _ h => h) (Or.inl ⟨by rfl, ?_⟩) ?_ ?_
          rotate_left
          · intro w'
            go_simp
            with_reducible rfl
          rotate_left
          · simp only [Act.put, List.setIfInBounds_toArray, List.set_cons_zero, List.set_cons_succ, i64_w, i32_w]
            rfl
          refine pure_ (i := 2) (N := some 56) (v := ?_) (a' := ?_) #[true, false, true, false, false, false, false, false] rfl rfl (any_of HT_.out (by kernel_rfl)) (fun _ _ _ h => h) (Or.inl ⟨by rfl, ?_⟩) ?_ ?_
          rotate_left
          · intro w'
            go_simp
            with_reducible rfl
          rotate_left
          · simp only [Act.put, List.setIfInBounds_toArray, List.set_cons_zero, List.set_cons_succ, i64_w, i32_w]
            rfl
          refine pure_ (i := 3) (N := some 57) (v := ?_) (a' := ?_) #[true, false, true, true, false, false, false, false] rfl rfl (any_of HT_.out (by kernel_rfl)) (fun _ _ _ h => h) (Or.inl ⟨by rfl, ?_⟩) ?_ ?_
          rotate_left
          · intro w'
            go_simp
            with_reducible rfl
          rotate_left
          · simp only [Act.put, List.setIfInBounds_toArray, List.set_cons_zero, List.set_cons_succ, i64_w, i32_w]
            rfl
          refine pure_ (i := 4) (N := some 58) (v := ?_) (a' := ?_) #[true, false, true, true, true, false, false, false] rfl rfl (any_of HT_.out (by kernel_rfl)) (fun _ _ _ h => h) (Or.inl ⟨by rfl, ?_⟩) ?_ ?_
          rotate_left
          · intro w'
            go_simp
            with_reducible rfl
          rotate_left
          · simp only [Act.put, List.setIfInBounds_toArray, List.set_cons_zero, List.set_cons_succ, i64_w, i32_w]
            rfl
          refine take_ (i := 1) (N := some 55) (v := ?_) (a' := ?_) #[true, true, true, true, true, false, false, false] rfl rfl (take_ofW HT_.out HW_.out (by kernel_rfl)) (fun _ _ _ h => h) (Or.inl ⟨by rfl, ?_⟩) hHeld ?_ ?_
          rotate_left
          · rintro w' s0
            go_simp
            with_reducible rfl
          rotate_left
          · simp only [Act.put, List.setIfInBounds_toArray, List.set_cons_zero, List.set_cons_succ, i64_w, i32_w]
            rfl
          refine one_ (i := 5) (N := some 59) #[true, true, true, true, true, true, false, false] rfl rfl (one_of HT_.out (by kernel_rfl)) (by decide) (fun K hK => ?_)
          refine goes_ Try.func70 (by kernel_rfl) rfl #[.int .u64 (rd f1 y), .map (some b)] (by rfl) rfl rfl (by (try simp only [List.map_toArray, List.map_cons, List.map_nil]); first | done | rfl | (simp only [List.length_drop, List.length_take]; rfl)) ?_
          with_reducible refine (collect_turned b _ m (rd f1 y) _ HMr.out HWy.out).mono ?_
          rintro e w9 ⟨rfl, ⟨nd, rfl⟩⟩
          refine ⟨_, rfl, ?_⟩
          refine hK.out _ _ hHeld (fun hHeld => ?_)
          clear hK K
          refine norm_ (a' := ?_) ?_ ?_
          rotate_left
          · show Act.put _ (some 59) _ = _
            simp only [Act.put, List.setIfInBounds_toArray, List.set_cons_zero, List.set_cons_succ, i64_w, i32_w]
            rfl
          have n0_ := Aside0.mk (Kd.S_drewN HL.out nd)
          have n1_ := Aside0.mk (show (w5.drewN nd).heap[gl]? = wl.heap[gl]? from HG.out)
          have n2_ := Aside0.mk (blk_drewN BK.out nd)
          have n3_ := Aside0.mk (Kd.R_drewN HKP.out nd)
          have n4_ := Aside0.mk (Kd.R_drewN HN.out nd)
          have n5_ := Aside0.mk (pw_below_drewN HB.out nd)
          have n6_ := Aside0.mk (show MapW (w5.drewN nd) b _ m from HMr.out.at_ rfl)
          generalize hw_ : w5.drewN nd = w6 at n0_ n1_ n2_ n3_ n4_ n5_ n6_ hHeld ⊢
          clear hw_ HL HG BK HKP HN HB HMr
          have HL := n0_
          have HG := n1_
          have BK := n2_
          have HKP := n3_
          have HN := n4_
          have HB := n5_
          have HMr := n6_
          clear n0_ n1_ n2_ n3_ n4_ n5_ n6_
          obtain ⟨b2, cc2, s1, s2, s3, s4, s5, s6, s7⟩ := S_slot HL.out i HIR.out.1 HIR.out.2 y y0 HIN.out (turn1 m (rd f1 y))
          rw [HCX.out] at s1 s4 s6
          have hb2 : b2 = b3 := by have h0_ : w6.cell? ⟨gl, i.toNat * 3 + 1, none⟩ = some (.slice (some ⟨b3, 0, none⟩) f1.length c1) := (World.cell?_of_block HG.out).trans HXL1.out; have h_ := Option.some.inj (h0_.symm.trans s1); injection h_ with h_ _ _; injection h_ with h_; injection h_ with h_; exact h_.symm
          subst hb2
          have hsu : w6.cell? ⟨b2, y.toNat, none⟩ = some (.int .u64 (rd ts y)) := s4
          have hfu := s5
          refine pure_ (i := 6) (N := some 60) (v := ?_) (a' := ?_) #[true, true, true, true, true, true, true, false] rfl rfl (any_of HT_.out (by kernel_rfl)) (fun _ _ _ h => h) (Or.inl ⟨by rfl, ?_⟩) ?_ ?_
          rotate_left
          · intro w'
            go_simp
            with_reducible rfl
          rotate_left
          · simp only [Act.put, List.setIfInBounds_toArray, List.set_cons_zero, List.set_cons_succ, i64_w, i32_w]
            rfl
          refine last_ (i := 7) (N := none) #[true, true, true, true, true, true, true, true] rfl rfl (one_of HT_.out (by kernel_rfl)) (by decide) (fun K hK => ?_)
          refine skip_ (w1 := ?_) (by rfl) rfl ?_ ?_
          rotate_left
          · go_simp
            rfl
          refine hK.out _ _ ?_
          clear hK K
          refine done_ (done_of HT_.out (by kernel_rfl)) ?_
          have GB2 := Aside0.mk s2
          have n0_ := Aside0.mk (show Kd.S k53 53 (w6.setCell ⟨b2, y.toNat, none⟩ (.int .u64 ((m (rd f1 y)).getD (rd f1 y)))) Bl (fun k => k < Nl) (.slice (some ⟨gl, 0, none⟩) l.length cl) (ys.set i.toNat (⟨c0, turnS m f1 (y + 1).toNat, f2⟩ : S53)) from (by rw [← HCN.out]; exact s6))
          have n1_ := Aside0.mk (show (w6.setCell ⟨b2, y.toNat, none⟩ (.int .u64 ((m (rd f1 y)).getD (rd f1 y)))).heap[gl]? = wl.heap[gl]? from (Below.heap_setCell _ _ _ gl (fun e_ => s3 e_.symm)).trans HG.out)
          have n2_ := Aside0.mk (show (w6.setCell ⟨b2, y.toNat, none⟩ (.int .u64 ((m (rd f1 y)).getD (rd f1 y)))).heap[gb]? = _ from (Below.heap_setCell _ _ _ gb (show gb ≠ b2 from by have := HGE2.out; have := HOK.out; have := HNN.out; omega)).trans BK.out)
          have n3_ := Aside0.mk (show Kd.R kraw 53 (w6.setCell ⟨b2, y.toNat, none⟩ (.int .u64 ((m (rd f1 y)).getD (rd f1 y)))) N (fun k => N ≤ k) u9 kk from Kd.R_far (p := ⟨b2, y.toNat, none⟩) HKP.out (fun k hk => show k ≠ b2 from by have := HOK.out; have := HNN.out; omega) _)
          have n4_ := Aside0.mk (show Kd.R (Kd.int .i64) 3 (w6.setCell ⟨b2, y.toNat, none⟩ (.int .u64 ((m (rd f1 y)).getD (rd f1 y)))) Nl (fun k => Nl ≤ k ∧ k < N) (.slice (some adn) ns.length cN) ns from Kd.R_far (p := ⟨b2, y.toNat, none⟩) HN.out (fun k hk => show k ≠ b2 from by have := HOK.out; omega) _)
          have n5_ := Aside0.mk (show Below Bl wl (w6.setCell ⟨b2, y.toNat, none⟩ (.int .u64 ((m (rd f1 y)).getD (rd f1 y)))) from HB.out.setCell (p := ⟨b2, y.toNat, none⟩) GB2.out _)
          generalize hw_ : (w6.setCell ⟨b2, y.toNat, none⟩ (.int .u64 ((m (rd f1 y)).getD (rd f1 y)))) = w7 at n0_ n1_ n2_ n3_ n4_ n5_ ⊢
          clear hw_ HL HG BK HKP HN HB
          have HL := n0_
          have HG := n1_
          have BK := n2_
          have HKP := n3_
          have HN := n4_
          have HB := n5_
          clear n0_ n1_ n2_ n3_ n4_ n5_
          go_wp2_with (fail)
          go_roundg (gk - 1)
          case measure => have := HKy.out; omega
          case rel => exact ⟨y + 1, (by first | rfl | go_num), by omega, by omega, ⟨by have := HKy.out; omega⟩, HL, HG, BK, HKP, HN, HB⟩
        · have d3b0 : decide (y < (f1.length : Int)) = false := decide_eq_false hly
          have hz0 : wr.cell? ⟨gb, 0, none⟩ = some (.int .u64 tc) := (blk_cell BK.out 0).trans rfl
          have hz2 : wr.cell? ⟨gb, 2, none⟩ = some (.slice A2 f2.length c2) := (blk_cell BK.out 2).trans rfl
          have HNW := Aside0.mk (show N ≤ wr.heap.size from by rw [HNL.out]; exact HB.out.size)
          have HFULL : turnS m f1 y.toNat = f1.map (turn1 m) := by unfold turnS; rw [List.take_of_length_le (by omega), List.drop_of_length_le (by omega), List.append_nil]
          rw [HFULL, ← HNX2.out] at HL
          clear HFULL
          go_wp2_with (first | ((with_reducible refine gate_builtin (b := .append) (xs := #[.tmp 62, .tmp 64]) rfl ?_); at_builtin; refine Kd.R_append kraw (w0 := wr) N rfl (.tmp 62) (.tmp 64) 22 53 (.agg #[(.int .u64 0), (.slice none 0 0), (.slice none 0 0)]) 56 rfl Try.underlying22 info53_ rfl (by decide) (by omega) u9 kk (tc, Value.slice A1 f1.length c1, Value.slice A2 f2.length c2) [.int .u64 tc, .slice A1 f1.length c1, .slice A2 f2.length c2] (fun k => N ≤ k) (fun _ => False) rfl rfl ?aP (fun _ hk => hk.elim) ?aF ?aO ?aB ?aS ?aL ?_; (case aP => exact ⟨rfl, rfl, rfl⟩); (case aB => exact Below.refl _ _); (case aF => exact (fun k hk => Nat.le_trans HNW.out hk)); (case aO => exact HKP.out); (case aS => exact HNW.out); (case aL => omega); intro v9 w9 ho hb hg hat; have n0_ := Aside0.mk (Kd.S_step HL.out (fun k hk _ => hb.block k (by have := HNN.out; omega))); have n1_ := Aside0.mk ((hb.block gl (by have := HGN.out; have := HNN.out; omega)).trans HG.out); have n2_ := Aside0.mk (HB.out.trans (hb.mono (by have := HBN.out; have := HNN.out; omega))); have n3_ := Aside0.mk (Kd.R_step HN.out (fun k hk _ => hb.block k hk.2)); have n4_ := Aside0.mk ho; clear HL HG HB HN HKP BK; have HL := n0_; have HG := n1_; have HB := n2_; have HN := n3_; have HKP := n4_; clear n0_ n1_ n2_ n3_ n4_ ho hb hg hat))
          go_roundg (ko - 1)
          case measure => have := HK.out; rw [← hko] at this ⊢; omega
          case rel => exact ⟨x + 1, (by first | rfl | go_num), by omega, by omega, ⟨by have := HK.out; rw [← hko] at this; omega⟩, HL, HG, ⟨by rw [HKN.out]; rw [HVR.out]; exact HKP.out⟩, HN, HB⟩
    · have c3b0 : decide (x < (ns.length : Int)) = false := decide_eq_false hlt
      have e_ : ns.take x.toNat = ns := List.take_of_length_le (by omega)
      rw [e_] at HL HKP
      clear e_
      obtain ⟨kl, hkl⟩ : ∃ kl, kl = keptL m l ns := ⟨_, rfl⟩
      have hkn : kl.length = ns.length := by rw [hkl]; unfold keptL; rw [List.length_map]
      obtain ⟨Ak, ck, ek, hlk, hCk⟩ := Kd.R_reads HKP.out
      rw [List.length_map] at hlk hCk ek
      rw [← hkn] at ek
      subst ek
      have HSL := slotsL_all m l _ ns (Nat.le_refl _) HGE.out
      have HKC := Aside0.mk (show Kd.C k53 wr Ak kl.length kl from by
        rw [hkn, hkl]
        refine C_heads (fun i => (turn1 m (rd_T53 l i).f0, h1 i, h2 i)) (fun i => turnO m (rd_T53 l i)) hCk (fun i hi => ?_)
        have hir := HGE.out i hi
        obtain ⟨ad, A1, c1, A2, c2, e0, hx0, hx1, hx2, hl1, hi1, hl2, hi2⟩ := at_T53 (Kd.S_reads' HL.out).2.2 i hir.1 (by rw [HSL.1]; exact hir.2)
        injection e0 with e0
        subst e0
        have hrd := HSL.2 i hir.1 hir.2
        rw [if_pos hi] at hrd
        have hea : (Addr.add ⟨gl, 0, none⟩ (i.toNat * 3)) = (⟨gl, i.toNat * 3, none⟩ : Addr) := by rw [add_at, Nat.zero_add]
        rw [hea] at hx1 hx2
        rw [hrd] at hx1 hx2 hl1 hi1 hl2 hi2
        have e1 : h1 i = .slice A1 ((rd_T53 l i).f1.map (turn1 m)).length c1 := by
          have h_ : wl.cell? ⟨gl, i.toNat * 3 + 1, none⟩ = wr.cell? ⟨gl, i.toNat * 3 + 1, none⟩ := World.cell?_of_block HG.out.symm
          have h2_ : wr.cell? ⟨gl, i.toNat * 3 + 1, none⟩ = some (.slice A1 ((rd_T53 l i).f1.map (turn1 m)).length c1) := hx1
          rw [HH1.out i, h_, h2_]
          rfl
        have e2 : h2 i = .slice A2 (rd_T53 l i).f2.length c2 := by
          have h_ : wl.cell? ⟨gl, i.toNat * 3 + 2, none⟩ = wr.cell? ⟨gl, i.toNat * 3 + 2, none⟩ := World.cell?_of_block HG.out.symm
          have h2_ : wr.cell? ⟨gl, i.toNat * 3 + 2, none⟩ = some (.slice A2 (rd_T53 l i).f2.length c2) := hx2
          rw [HH2.out i, h_, h2_]
          rfl
        show k53.K wr (turnO m (rd_T53 l i)) [.int .u64 (turn1 m (rd_T53 l i).f0), h1 i, h2 i]
        rw [e1, e2]
        exact k53_mk wr (turnO m (rd_T53 l i)) hl1 hi1 hl2 hi2)
      have HKCL := Aside0.mk (show kl.length ≤ ck by rw [hkn]; exact hlk)
      have HKS := Aside0.mk (show SmallL kl by rw [hkl]; exact keptL_small HS.out hnl HGE.out)
      have HKW := Aside0.mk (show WordsL kl by rw [hkl]; exact keptL_words HW.out HWM.out HGE.out)
      have n0_ := Aside0.mk (HC.out.trans (HB.out.mono HWB.out))
      have HMk := Aside0.mk (show MapW wr b _ m from HM.out.at_ (HB.out.block b HBB.out))
      rw [← hkl] at HE
      have HKE := Aside0.mk hkl
      clear HC HL HG HKP HN HB HSL hCk hlk hkn hkl HH1 HH2 HM
      have HC := n0_
      clear n0_
      obtain ⟨wk, rfl⟩ : ∃ wk : World, wk = wr := ⟨_, rfl⟩
      go_wp2_with (fail)
      go_loopg [15, 69] roots.length (fun kq v15 v69 w' => ∃ y : Int, v69 = .int .i64 y ∧ 0 ≤ y ∧ y ≤ roots.length ∧ Aside0 ((kq : Int) + y = roots.length) ∧ Aside0 (Kd.R (Kd.int .u64) 36 w' wk.heap.size (fun _ => True) v15 ((roots.take y.toNat).map (turn1 m))) ∧ Aside0 (Below wk.heap.size wk w'))
      case atStart => exact ⟨0, rfl, by omega, by omega, ⟨by simp⟩, ⟨Kd.R_nil _ _ _ _ _⟩, ⟨Below.refl _ _⟩⟩
      case round =>
        obtain ⟨y, rfl, y0, y1, HKy, HO, HB2⟩ := hrel
        by_cases hly : y < (roots.length : Int)
        · have d3b0 : decide (y < (roots.length : Int)) = true := decide_eq_true hly
          obtain ⟨adr, e0r, hwr⟩ := Kd.at_int HR.out y y0 hly
          cases e0r
          have HWr := Aside0.mk (HRW.out _ (rd_mem y0 hly))
          replace hwr := ((below_step HC.out HB2.out).cell (World.block_lt_of_cell? w _ hwr)).trans hwr
          have qy0 : (0 ≤ y) = True := eq_true y0
          have qy1 : (y < (roots.length : Int)) = True := eq_true hly
          have HTS := Aside0.mk (take_snoc roots y y0 hly)
          obtain ⟨oo, hoo⟩ : ∃ oo, oo = (roots.take y.toNat).map (turn1 m) := ⟨_, rfl⟩
          have HOO := Aside0.mk (show (roots.take (y + 1).toNat).map (turn1 m) = oo ++ [((m (rd roots y)).getD (rd roots y))] by rw [HTS.out, List.map_append, ← hoo]; rfl)
          have HOL : oo.length ≤ 100000 := by rw [hoo, List.length_map, List.length_take]; omega
          rw [← hoo] at HO
          clear hoo
          go_wp2_with (first | (go_at_call 70; (with_reducible refine (collect_turned b _ m (rd roots y) _ (HMk.out.below (by repeat (first | (with_reducible first | exact HB2.out | apply below_alloc | apply pw_below_drewN | apply below_drew1) | exact HB2.out))) HWr.out).mono ?_); rintro e w' ⟨rfl, ⟨nd, rfl⟩⟩) | ((with_reducible refine gate_builtin (b := .append) (xs := #[.tmp 73, .tmp 77]) rfl ?_); at_builtin; refine Kd.R_append (Kd.int .u64) (w0 := wk) wk.heap.size rfl (.tmp 73) (.tmp 77) 50 36 (.int .u64 0) 8 rfl Try.underlying50 info36_ rfl (by decide) (by omega) u15 oo ((m (rd roots y)).getD (rd roots y)) [.int .u64 ((m (rd roots y)).getD (rd roots y))] (fun _ => True) (fun _ => False) rfl rfl ?aP (fun _ hk => hk.elim) ?aF ?aO ?aB ?aS ?aL ?_; (case aP => exact rfl); (case aB => exact (by repeat (first | (with_reducible first | exact HB2.out | apply below_alloc | apply pw_below_drewN | apply below_drew1) | exact HB2.out))); (case aF => exact (fun _ _ => trivial)); (case aO => exact (by (with_reducible repeat (first | apply Kd.R_alloc | apply Kd.R_drewN | apply Kd.R_drew)); exact HO.out)); (case aS => exact (below_size (by repeat (first | (with_reducible first | exact HB2.out | apply below_alloc | apply pw_below_drewN | apply below_drew1) | exact HB2.out)))); (case aL => omega); intro v9 w9 ho hb hg hat; have n0_ := Aside0.mk hb; have n1_ := Aside0.mk ho; clear HB2 HO; have HB2 := n0_; have HO := n1_; clear n0_ n1_ ho hb hg hat))
          go_roundg (gk - 1)
          case measure => have := HKy.out; omega
          case rel => exact ⟨y + 1, (by first | rfl | go_num), by omega, by omega, ⟨by have := HKy.out; omega⟩, ⟨by rw [HOO.out]; exact HO.out⟩, HB2⟩
        · have d3b0 : decide (y < (roots.length : Int)) = false := decide_eq_false hly
          have e_ : roots.take y.toNat = roots := List.take_of_length_le (by omega)
          rw [e_] at HO
          clear e_
          obtain ⟨At, ct, et, hlt2, hCt⟩ := Kd.R_reads HO.out
          rw [List.length_map] at et hlt2 hCt
          subst et
          have HCT := Aside0.mk hCt
          have HLT := Aside0.mk hlt2
          have HB3 := HB2
          obtain ⟨wt, rfl⟩ : ∃ wt : World, wt = wr := ⟨_, rfl⟩
          clear hCt hlt2 HO
          have HWT := Aside0.mk (Below.refl wt.heap.size wt)
          go_wp2_with (first | (go_at_call 22; (with_reducible refine (heap_Room g l o wd u _ (HH.out.below (below_step HC.out (by repeat (first | (with_reducible first | exact HB2.out | apply below_alloc | apply pw_below_drewN | apply below_drew1) | exact HB2.out))))).mono ?_); rintro e w' ⟨rfl, ⟨nd, rfl⟩⟩) | (go_at_call 14; (with_reducible refine (of_room Ak ck kl o wd _ (Kd.C_below HKC.out (by repeat (first | (with_reducible first | exact HB2.out | apply below_alloc | apply pw_below_drewN | apply below_drew1) | exact HB2.out))) HKCL.out HKS.out HKW.out HRO.out).mono ?_); rintro e w' ⟨hy, hn, hb⟩; obtain ⟨gn, rfl, hgn⟩ := hy HE.out; have HGN2 := Aside0.mk hgn.reads; have n0_ := Aside0.mk (below_step (by repeat (first | (with_reducible first | exact HB2.out | apply below_alloc | apply pw_below_drewN | apply below_drew1) | exact HB2.out)) hb); have n1_ := Aside0.mk (Kd.C_below HCT.out (below_step (by repeat (first | (with_reducible first | exact HWT.out | apply below_alloc | apply pw_below_drewN | apply below_drew1) | exact HWT.out)) hb)); clear HB2 HCT; have HB2 := n0_; have HCT := n1_; clear n0_ n1_ hy hn hgn hb))
          go_ret3
          rw [← HNS.out, ← HMM.out, ← HKE.out]
          exact ⟨gn, At, ct, rfl, HGN2.out, HCT.out, HLT.out, below_step HC.out HB2.out⟩

end Go.Proofs.Ytiokegmpooildaa.Hp
