/- become.One, of no heap. -/
import Derived.Test.YtiokegmpooildaaOn
import Derived.Laws.EntriesVeiled
namespace Go.Proofs.Ytiokegmpooildaa.Hp
open Go.RowKit Go.Proofs.YtiokegmpooildaaW.PrintWords Go.Proofs.YtiokegmpooildaaW.PrintLast Go.Proofs.YtiokegmpooildaaW.PrintMore Go.Proofs.Ytiokegmpooildaa.PAll
set_option linter.unusedVariables false
set_option linter.unusedSimpArgs false

set_option maxHeartbeats 8000000 in
set_option maxRecDepth 100000 in
theorem with_nil (ht : Nat) (A : Option Addr) (n c : Nat) (w : World) : Calls Try.prog 57 #[.pointer none, .slice A n c, .func (.func 63) #[] #[.pointer (some ⟨ht, 0, none⟩)]] w fun e w' => e = .returned (.tuple #[.pointer none, .int .i64 2]) ∧ Below w.heap.size w w' := by
  go_enter Try.func57, Try.ntmps57
  go_wp2_with (fail)
  go_ret2
  exact ⟨rfl, by repeat (first | exact Below.refl _ _ | apply below_alloc | apply pw_below_drewN | apply below_drew1)⟩
set_option maxHeartbeats 16000000 in
set_option maxRecDepth 100000 in
theorem one_nil (Ap : Option Addr) (cp : Nat) (ps : List S38) (w : World) (hC : Kd.C k38 w Ap ps.length ps) (hps : ∀ p ∈ ps, W64 p.f0 ∧ W64 p.f1) (hm : ps.length ≤ 100000) :
    Calls Try.prog 26 #[.pointer none, .slice Ap ps.length cp] w fun e w' => e = .returned (.tuple #[.pointer none, .int .i64 2]) ∧ Below w.heap.size w w' := by
  have HR := Aside0.mk hC
  have HP := Aside0.mk hps
  clear hC hps
  have HC := Aside0.mk (Below.refl w.heap.size w)
  go_enter Try.func26, Try.ntmps26
  go_wp2_with (first | ((with_reducible refine gate_dst (N := 10) rfl ?_); refine mapmadeW_event rfl rfl ?_; intro b wb hg hM hb; have HM := Aside0.mk hM; have GB := Aside0.mk (show w.heap.size ≤ b from by rw [hg]; exact below_size (by repeat (first | (with_reducible first | exact HC.out | apply below_alloc | apply pw_below_drewN | apply below_drew1) | exact HC.out))); have n0_ := Aside0.mk (below_step (by repeat (first | (with_reducible first | exact HC.out | apply below_alloc | apply pw_below_drewN | apply below_drew1) | exact HC.out)) hb); clear HC; have HC := n0_; clear n0_; clear hM hg hb) | ((with_reducible refine gate_dst (N := 6) rfl ?_); refine box_event ?hg (N := 6) ?hd (cs := #[.map none]) (t := 72) ?hr ?_; (case hd => rfl); (case hg => rfl); (case hr => first | (go_simp; done) | (go_simp; rfl)); intro hq hg wbhq hbox hb; have n0_ := Aside0.mk (below_step (by repeat (first | (with_reducible first | exact HC.out | apply below_alloc | apply pw_below_drewN | apply below_drew1) | exact HC.out)) hb); have n1_ := Aside0.mk (hbox); have n2_ := Aside0.mk (by rw [hg]; exact below_size (by repeat (first | (with_reducible first | exact HC.out | apply below_alloc | apply pw_below_drewN | apply below_drew1) | exact HC.out)) : w.heap.size ≤ hq); have n3_ := Aside0.mk (HM.out.below hb); have n4_ := Aside0.mk (show hq ≠ b from fun e_ => by have := HM.out.lt; rw [← e_, hg] at this; exact Nat.lt_irrefl _ this); clear HC; clear HM; have HC := n0_; have BKhq := n1_; have GEhq := n2_; have HM := n3_; have NE := n4_; clear n0_ n1_ n2_ n3_ n4_; clear hb hbox hg; have hzhq0 : wbhq.cell? ⟨hq, 0, none⟩ = some (.map none) := (blk_cell BKhq.out 0).trans rfl; have hfhq0 := blk_frozen BKhq.out 0))
  have n0_ := Aside0.mk (show (wbhq.setCell ⟨hq, 0, none⟩ (.map (some b))).heap[hq]? = some (.cells #[.map (some b)] 72 (0, 0)) from blk_put (cs := #[.map none]) BKhq.out 0 _ rfl)
  have n1_ := Aside0.mk (show MapW (wbhq.setCell ⟨hq, 0, none⟩ (.map (some b))) b 0 (fun _ => none) from HM.out.kept (grown_set _ _ _ _) (fun e_ => NE.out (Option.some.inj e_).symm))
  have n2_ := Aside0.mk (show Below w.heap.size w (wbhq.setCell ⟨hq, 0, none⟩ (.map (some b))) from below_set HC.out GEhq.out)
  generalize hw_ : (wbhq.setCell ⟨hq, 0, none⟩ (.map (some b))) = w1 at n0_ n1_ n2_ ⊢
  clear hw_ BKhq HM HC
  have BKhq := n0_
  have HM := n1_
  have HC := n2_
  clear n0_ n1_ n2_
  clear hzhq0 hfhq0
  go_loopg [13] ps.length (fun kq v13 w' => ∃ (x : Int) (nn : Nat), v13 = .int .i64 x ∧ 0 ≤ x ∧ x ≤ ps.length ∧ Aside0 ((kq : Int) + x = ps.length) ∧ Aside0 ((nn : Int) ≤ x) ∧ Aside0 (MapW w' b nn (mapP (ps.take x.toNat))) ∧ Aside0 (w'.heap[hq]? = some (.cells #[.map (some b)] 72 (0, 0))) ∧ Aside0 (Below w.heap.size w w'))
  case atStart => exact ⟨0, 0, rfl, by omega, by omega, ⟨by simp⟩, ⟨by omega⟩, HM, BKhq, HC⟩
  case round =>
    clear HM BKhq HC
    obtain ⟨x, nn, rfl, p0, p1, HK, HNN, HM, BKhq, HB⟩ := hrel
    by_cases hlt : x < (ps.length : Int)
    · have c3b0 : decide (x < (ps.length : Int)) = true := decide_eq_true hlt
      obtain ⟨ad, e0, hx0, hx1⟩ := at_T38 HR.out x p0 hlt
      cases e0
      replace hx0 := (HB.out.cell (World.block_lt_of_cell? w _ hx0)).trans hx0
      replace hx1 := (HB.out.cell (World.block_lt_of_cell? w _ hx1)).trans hx1
      have hq0 : wr.cell? ⟨hq, 0, none⟩ = some (.map (some b)) := (blk_cell BKhq.out 0).trans rfl
      have q0 : (0 ≤ x) = True := eq_true p0
      have q1 : (x < (ps.length : Int)) = True := eq_true hlt
      have HPX := Aside0.mk (HP.out _ (rd38_mem p0 hlt))
      have HNX := Aside0.mk (mapP_next ps x p0 hlt)
      have hmx : nn < maxLen := by have := HNN.out; unfold maxLen; omega
      have HC := Aside0.mk (Below.refl wr.heap.size wr)
      go_wp2_with (first | ((with_reducible refine gate_dst (N := 8) rfl ?_); refine box_event ?hg (N := 8) ?hd (cs := #[.int .u64 0, .int .u64 0]) (t := 38) ?hr ?_; (case hd => rfl); (case hg => rfl); (case hr => first | (go_simp; done) | (go_simp; rfl)); intro gb hg wbgb hbox hb; have n0_ := Aside0.mk (below_step (by repeat (first | (with_reducible first | exact HC.out | apply below_alloc | apply pw_below_drewN | apply below_drew1) | exact HC.out)) hb); have n1_ := Aside0.mk (hbox); have n2_ := Aside0.mk (by rw [hg]; exact below_size (by repeat (first | (with_reducible first | exact HC.out | apply below_alloc | apply pw_below_drewN | apply below_drew1) | exact HC.out)) : wr.heap.size ≤ gb); clear HC; have HC := n0_; have BKgb := n1_; have GEgb := n2_; clear n0_ n1_ n2_; clear hb hbox hg; have hzgb0 : wbgb.cell? ⟨gb, 0, none⟩ = some (.int .u64 0) := (blk_cell BKgb.out 0).trans rfl; have hfgb0 := blk_frozen BKgb.out 0; have hzgb1 : wbgb.cell? ⟨gb, 1, none⟩ = some (.int .u64 0) := (blk_cell BKgb.out 1).trans rfl; have hfgb1 := blk_frozen BKgb.out 1; have hqg : hq ≠ gb := (fun e_ => by have := blk_lt BKhq.out; have := GEgb.out; omega); have hgq : gb ≠ hq := hqg.symm; have hq1 : wbgb.cell? ⟨hq, 0, none⟩ = some (.map (some b)) := (HC.out.cell (World.block_lt_of_cell? wr _ hq0)).trans hq0) | ((with_reducible refine gate_ (Op.mapUpdate 72 (.tmp 17) (.tmp 19) (.tmp 21)) rfl ?_); refine wpList_put_w _ rfl (.tmp 17) (.tmp 19) (.tmp 21) rfl b nn _ (rd_T38 ps x).f0 (rd_T38 ps x).f1 rfl rfl rfl HPX.out.1 HPX.out.2 hmx (HM.out.below (by repeat (first | (with_reducible first | exact HC.out | apply below_alloc | apply pw_below_drewN | apply below_drew1 | refine below_set ?_ GEgb.out) | exact HC.out))) ?_; intro w3 hM3 hg; have n0_ := Aside0.mk hM3; have n1_ := Aside0.mk (Below.grown (below_step HB.out (by repeat (first | (with_reducible first | exact HC.out | apply below_alloc | apply pw_below_drewN | apply below_drew1 | refine below_set ?_ GEgb.out) | exact HC.out))) hg (below_step HB.out (by repeat (first | (with_reducible first | exact HC.out | apply below_alloc | apply pw_below_drewN | apply below_drew1 | refine below_set ?_ GEgb.out) | exact HC.out))).size (fun k hk => by have := Option.some.inj hk; have := GB.out; omega)); have n2_ := Aside0.mk (blk_grown (blk_below BKhq.out (by repeat (first | (with_reducible first | exact HC.out | apply below_alloc | apply pw_below_drewN | apply below_drew1 | refine below_set ?_ GEgb.out) | exact HC.out))) hg (fun e_ => NE.out (Option.some.inj e_))); clear HM HB BKhq hM3 hg; have HM := n0_; have HB := n1_; have BKhq := n2_; clear n0_ n1_ n2_))
      go_roundg (gk - 1)
      case measure => have := HK.out; omega
      case rel => exact ⟨x + 1, nn + 1, (by first | rfl | go_num), by omega, by omega, ⟨by have := HK.out; omega⟩, ⟨by have := HNN.out; omega⟩, ⟨by rw [HNX.out]; exact HM.out⟩, BKhq, HB⟩
    · have c3b0 : decide (x < (ps.length : Int)) = false := decide_eq_false hlt
      have HE : ps.take x.toNat = ps := List.take_of_length_le (by omega)
      rw [HE] at HM
      have HC := HB
      have hq0 : wr.cell? ⟨hq, 0, none⟩ = some (.map (some b)) := (blk_cell BKhq.out 0).trans rfl
      have HWM := Aside0.mk (mapP_word ps HP.out)
      clear HB HK
      go_wp2_with (first | ((with_reducible refine gate_dst (N := 9) rfl ?_); refine box_event ?hg (N := 9) ?hd (cs := #[.nilFunc]) (t := 104) ?hr ?_; (case hd => rfl); (case hg => rfl); (case hr => first | (go_simp; done) | (go_simp; rfl)); intro ht hg wbht hbox hb; have n0_ := Aside0.mk (below_step (by repeat (first | (with_reducible first | exact HC.out | apply below_alloc | apply pw_below_drewN | apply below_drew1) | exact HC.out)) hb); have n1_ := Aside0.mk (hbox); have n2_ := Aside0.mk (by rw [hg]; exact below_size (by repeat (first | (with_reducible first | exact HC.out | apply below_alloc | apply pw_below_drewN | apply below_drew1) | exact HC.out)) : w.heap.size ≤ ht); have n3_ := Aside0.mk (HM.out.below hb); have n4_ := Aside0.mk (blk_below BKhq.out hb); have n5_ := Aside0.mk (show ht ≠ b from fun e_ => by have := HM.out.lt; rw [← e_, hg] at this; exact Nat.lt_irrefl _ this); have n6_ := Aside0.mk (show ht ≠ hq from fun e_ => by have := blk_lt BKhq.out; rw [← e_, hg] at this; exact Nat.lt_irrefl _ this); clear HC; clear HM; clear BKhq; have HC := n0_; have BKht := n1_; have GEht := n2_; have HM := n3_; have BKhq := n4_; have NEt := n5_; have NEq := n6_; clear n0_ n1_ n2_ n3_ n4_ n5_ n6_; clear hb hbox hg; have hzht0 : wbht.cell? ⟨ht, 0, none⟩ = some (.nilFunc) := (blk_cell BKht.out 0).trans rfl; have hfht0 := blk_frozen BKht.out 0))
      have BKt := Aside0.mk (show (wbht.setCell ⟨ht, 0, none⟩ (.func (.func 62) #[] #[.pointer (some ⟨hq, 0, none⟩)])).heap[ht]? = some (.cells #[(.func (.func 62) #[] #[.pointer (some ⟨hq, 0, none⟩)])] 104 (0, 0)) from blk_put (cs := #[.nilFunc]) BKht.out 0 _ rfl)
      have BKq := Aside0.mk (show (wbht.setCell ⟨ht, 0, none⟩ (.func (.func 62) #[] #[.pointer (some ⟨hq, 0, none⟩)])).heap[hq]? = some (.cells #[.map (some b)] 72 (0, 0)) from blk_far BKhq.out NEq.out.symm _)
      have HM2 := Aside0.mk (show MapW (wbht.setCell ⟨ht, 0, none⟩ (.func (.func 62) #[] #[.pointer (some ⟨hq, 0, none⟩)])) b nn (mapP ps) from HM.out.kept (grown_set _ _ _ _) (fun e_ => NEt.out (Option.some.inj e_).symm))
      have HC2 := Aside0.mk (show Below w.heap.size w (wbht.setCell ⟨ht, 0, none⟩ (.func (.func 62) #[] #[.pointer (some ⟨hq, 0, none⟩)])) from below_set HC.out GEht.out)
      refine (with_nil ht Ap ps.length cp _).mono ?_
      rintro e w' ⟨rfl, hb⟩
      have n0_ := Aside0.mk (below_step HC2.out hb)
      clear hb
      go_wp2_with (fail)
      go_ret2
      exact ⟨rfl, n0_.out⟩
end Go.Proofs.Ytiokegmpooildaa.Hp
