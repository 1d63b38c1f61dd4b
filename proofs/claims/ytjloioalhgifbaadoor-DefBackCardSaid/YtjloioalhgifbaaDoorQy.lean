/- DefBack, walked. -/
import Derived.Test.YtjloioalhgifbaaDoorQx
import Derived.Test.YtjloioalhgifbaaDoorQf
import Derived.Test.YtjloioalhgifbaaDoorPAllx13
import Derived.Test.YtjloioalhgifbaaDoorPAllx8
namespace Go.Proofs.YtjloioalhgifbaaDoor.Hd
open Go.RowKit Go.Proofs.YtjloioalhgifbaaDoorW.PrintWords Go.Proofs.YtjloioalhgifbaaDoorW.PrintLast Go.Proofs.YtjloioalhgifbaaDoorW.PrintMore Go.Proofs.YtjloioalhgifbaaDoor.PAll
attribute [local go_sem] max2_int min2_int max_two min_two max_three min_three max_four min_four
set_option linter.unusedVariables false
set_option linter.unusedSimpArgs false
def wback.T9 : Bool × List (List Nat × List Nat) := (true, [([], []), ([0], [0]), ([1, 0], [1]), ([2, 2], [2]), ([3, 2], [2, 3]), ([2], [2]), ([2], [2]), ([6, 3, 2], [2, 6]), ([5, 7, 2], [2, 5, 7]), ([4, 8, 2], [2, 4, 8]), ([2, 9], [2, 9])])
def wback.B9 : List Nat := [0, 1, 3, 7, 15, 7, 7, 79, 239, 511, 1023]
theorem wback.tab9 : rtab .any (opsOf Tryd.f10 9) = wback.T9 := by kernel_rfl
theorem wback.bits9 : waitsOk wback.T9.2 wback.B9 = true := by kernel_rfl
set_option maxHeartbeats 16000000 in
set_option maxRecDepth 100000 in
theorem law_back (k : Nat) (kd : Int) (c s : ByteArray) (A0 : Option Addr) (c0 : Nat) (v : List ByteArray) (l t : ByteArray) (sm rb : Bool) (n7 od : ByteArray) (ob o1 : List Int) (w : World) (hr : Kd.C Kd.string w A0 v.length v) (hc : v.length ≤ c0)
    (hw : monticulelaw07_awake.f k = some true) (hsm : monticuleref07_Small.f k kd c s v l t = some sm)
    (hx : sm = true → def_Right.f k kd c s v l t = some rb ∧ monticuleref07_Right.f k kd c s v l t = some rb ∧ (rb = true → (kd = 1 ∨ kd = 2) ∧ (c.size ≤ 100000 ∧ s.size ≤ 100000 ∧ v.length ≤ 1000000 ∧ l.size ≤ 100000 ∧ t.size ≤ 100000) ∧ (∀ x ∈ v, x.size ≤ 100000) ∧
      monticuleref01_Num.f k 7 = some (n7, true) ∧ monticuleref07_Octets.f k kd c s v l t = some od ∧ ([] ++ be4 7) ++ defO kd c s v l t = ob ∧ n7 ++ od = strOfNums ob ∧ ob.length ≤ 90000 ∧ BytesOk ob ∧ numR ob 0 = (7, o1, 0) ∧ BytesOk o1 ∧ o1.length ≤ 100000 ∧ readR o1 0 = (⟨kd, c, s, v, l, t⟩, 0, [], 0) ∧
      monticuleref07_Same.f k kd c s v l t kd c s v l t = some true)) :
    Calls Tryd.prog 10 #[.agg #[.int .i64 kd, .string c, .string s, .slice A0 v.length c0, .string l, .string t]] w fun e w' => e = .returned (.bool true) ∧ Below w.heap.size w w' := by
  have hu31 := Tryd.underlying31
  have HR := Aside0.mk hr
  have HC := Aside0.mk hc
  have HW := Aside0.mk hw
  have HSM := Aside0.mk hsm
  clear hr hc hw hsm
  have HB := Aside0.mk (Below.refl w.heap.size w)
  cases sm with
  | false =>
    clear hx
    go_enter Tryd.func10, Tryd.ntmps10
    go_wp2_with (first | ((with_reducible refine gate_dst (N := 1) rfl ?_); refine box_event ?hg (N := 1) ?hd (cs := #[.int .i64 kd, .string c, .string s, .slice A0 v.length c0, .string l, .string t]) (t := 31) ?hr ?_; (case hd => rfl); (case hg => rfl); (case hr => first | (go_simp; done) | (go_simp; rfl)); intro gd hg wb hbox hb; have n0_ := Aside0.mk (below_step (by repeat (first | (with_reducible first | exact HB.out | apply below_alloc | apply pw_below_drewN | apply below_drew1) | exact HB.out)) hb); have BD := Aside0.mk hbox; clear HB hbox hb hg; have HB := n0_; clear n0_; have hcz_0 : wb.cell? ⟨gd, 0, none⟩ = some (.int .i64 kd) := (blk_cell BD.out 0).trans rfl; have hcz_1 : wb.cell? ⟨gd, 1, none⟩ = some (.string c) := (blk_cell BD.out 1).trans rfl; have hcz_2 : wb.cell? ⟨gd, 2, none⟩ = some (.string s) := (blk_cell BD.out 2).trans rfl; have hcz_3 : wb.cell? ⟨gd, 3, none⟩ = some (.slice A0 v.length c0) := (blk_cell BD.out 3).trans rfl; have hcz_4 : wb.cell? ⟨gd, 4, none⟩ = some (.string l) := (blk_cell BD.out 4).trans rfl; have hcz_5 : wb.cell? ⟨gd, 5, none⟩ = some (.string t) := (blk_cell BD.out 5).trans rfl) | (go_at_call 27; (with_reducible refine (monticulelaw07_awake.calls k true _ HW.out).mono ?_); rintro e wa ⟨rfl, hb_⟩; have n0_ := Aside0.mk (below_step (by repeat (first | (with_reducible first | exact HB.out | apply below_alloc | apply pw_below_drewN | apply below_drew1) | exact HB.out)) hb_); have n1_ := Aside0.mk (blk_below BD.out hb_); clear HB BD hb_; clear hcz_0 hcz_1 hcz_2 hcz_3 hcz_4 hcz_5; have HB := n0_; have BD := n1_; clear n0_ n1_; have hcz_0 : wa.cell? ⟨gd, 0, none⟩ = some (.int .i64 kd) := (blk_cell BD.out 0).trans rfl; have hcz_1 : wa.cell? ⟨gd, 1, none⟩ = some (.string c) := (blk_cell BD.out 1).trans rfl; have hcz_2 : wa.cell? ⟨gd, 2, none⟩ = some (.string s) := (blk_cell BD.out 2).trans rfl; have hcz_3 : wa.cell? ⟨gd, 3, none⟩ = some (.slice A0 v.length c0) := (blk_cell BD.out 3).trans rfl; have hcz_4 : wa.cell? ⟨gd, 4, none⟩ = some (.string l) := (blk_cell BD.out 4).trans rfl; have hcz_5 : wa.cell? ⟨gd, 5, none⟩ = some (.string t) := (blk_cell BD.out 5).trans rfl) | (go_at_call 30; (with_reducible refine (monticuleref07_Small.calls k kd c s _ _ v l t false _ ?side1 HC.out HSM.out).mono ?_); (case side1 => exact Kd.C_below HR.out (by repeat (first | (with_reducible first | exact HB.out | apply below_alloc | apply pw_below_drewN | apply below_drew1) | exact HB.out))); rintro e ws ⟨rfl, hb_⟩; have n0_ := Aside0.mk (below_step (by repeat (first | (with_reducible first | exact HB.out | apply below_alloc | apply pw_below_drewN | apply below_drew1) | exact HB.out)) hb_); have n1_ := Aside0.mk (blk_below BD.out hb_); clear HB BD hb_; clear hcz_0 hcz_1 hcz_2 hcz_3 hcz_4 hcz_5; have HB := n0_; have BD := n1_; clear n0_ n1_; have hcz_0 : ws.cell? ⟨gd, 0, none⟩ = some (.int .i64 kd) := (blk_cell BD.out 0).trans rfl; have hcz_1 : ws.cell? ⟨gd, 1, none⟩ = some (.string c) := (blk_cell BD.out 1).trans rfl; have hcz_2 : ws.cell? ⟨gd, 2, none⟩ = some (.string s) := (blk_cell BD.out 2).trans rfl; have hcz_3 : ws.cell? ⟨gd, 3, none⟩ = some (.slice A0 v.length c0) := (blk_cell BD.out 3).trans rfl; have hcz_4 : ws.cell? ⟨gd, 4, none⟩ = some (.string l) := (blk_cell BD.out 4).trans rfl; have hcz_5 : ws.cell? ⟨gd, 5, none⟩ = some (.string t) := (blk_cell BD.out 5).trans rfl))
    go_ret
    exact ⟨rfl, HB.out⟩
  | true =>
    obtain ⟨hRT, hRR, hgood⟩ := hx rfl
    have HRT := Aside0.mk hRT
    have HRR := Aside0.mk hRR
    have HGOOD := Aside0.mk hgood
    clear hx hRT hRR hgood
    go_enter Tryd.func10, Tryd.ntmps10
    go_upto_region 3 with (first | ((with_reducible refine gate_dst (N := 1) rfl ?_); refine box_event ?hg (N := 1) ?hd (cs := #[.int .i64 kd, .string c, .string s, .slice A0 v.length c0, .string l, .string t]) (t := 31) ?hr ?_; (case hd => rfl); (case hg => rfl); (case hr => first | (go_simp; done) | (go_simp; rfl)); intro gd hg wb hbox hb; have n0_ := Aside0.mk (below_step (by repeat (first | (with_reducible first | exact HB.out | apply below_alloc | apply pw_below_drewN | apply below_drew1) | exact HB.out)) hb); have BD := Aside0.mk hbox; clear HB hbox hb hg; have HB := n0_; clear n0_; have hcz_0 : wb.cell? ⟨gd, 0, none⟩ = some (.int .i64 kd) := (blk_cell BD.out 0).trans rfl; have hcz_1 : wb.cell? ⟨gd, 1, none⟩ = some (.string c) := (blk_cell BD.out 1).trans rfl; have hcz_2 : wb.cell? ⟨gd, 2, none⟩ = some (.string s) := (blk_cell BD.out 2).trans rfl; have hcz_3 : wb.cell? ⟨gd, 3, none⟩ = some (.slice A0 v.length c0) := (blk_cell BD.out 3).trans rfl; have hcz_4 : wb.cell? ⟨gd, 4, none⟩ = some (.string l) := (blk_cell BD.out 4).trans rfl; have hcz_5 : wb.cell? ⟨gd, 5, none⟩ = some (.string t) := (blk_cell BD.out 5).trans rfl) | (go_at_call 27; (with_reducible refine (monticulelaw07_awake.calls k true _ HW.out).mono ?_); rintro e wa ⟨rfl, hb_⟩; have n0_ := Aside0.mk (below_step (by repeat (first | (with_reducible first | exact HB.out | apply below_alloc | apply pw_below_drewN | apply below_drew1) | exact HB.out)) hb_); have n1_ := Aside0.mk (blk_below BD.out hb_); clear HB BD hb_; clear hcz_0 hcz_1 hcz_2 hcz_3 hcz_4 hcz_5; have HB := n0_; have BD := n1_; clear n0_ n1_; have hcz_0 : wa.cell? ⟨gd, 0, none⟩ = some (.int .i64 kd) := (blk_cell BD.out 0).trans rfl; have hcz_1 : wa.cell? ⟨gd, 1, none⟩ = some (.string c) := (blk_cell BD.out 1).trans rfl; have hcz_2 : wa.cell? ⟨gd, 2, none⟩ = some (.string s) := (blk_cell BD.out 2).trans rfl; have hcz_3 : wa.cell? ⟨gd, 3, none⟩ = some (.slice A0 v.length c0) := (blk_cell BD.out 3).trans rfl; have hcz_4 : wa.cell? ⟨gd, 4, none⟩ = some (.string l) := (blk_cell BD.out 4).trans rfl; have hcz_5 : wa.cell? ⟨gd, 5, none⟩ = some (.string t) := (blk_cell BD.out 5).trans rfl) | (go_at_call 30; (with_reducible refine (monticuleref07_Small.calls k kd c s _ _ v l t true _ ?side1 HC.out HSM.out).mono ?_); (case side1 => exact Kd.C_below HR.out (by repeat (first | (with_reducible first | exact HB.out | apply below_alloc | apply pw_below_drewN | apply below_drew1) | exact HB.out))); rintro e ws ⟨rfl, hb_⟩; have n0_ := Aside0.mk (below_step (by repeat (first | (with_reducible first | exact HB.out | apply below_alloc | apply pw_below_drewN | apply below_drew1) | exact HB.out)) hb_); have n1_ := Aside0.mk (blk_below BD.out hb_); clear HB BD hb_; clear hcz_0 hcz_1 hcz_2 hcz_3 hcz_4 hcz_5; have HB := n0_; have BD := n1_; clear n0_ n1_; have hcz_0 : ws.cell? ⟨gd, 0, none⟩ = some (.int .i64 kd) := (blk_cell BD.out 0).trans rfl; have hcz_1 : ws.cell? ⟨gd, 1, none⟩ = some (.string c) := (blk_cell BD.out 1).trans rfl; have hcz_2 : ws.cell? ⟨gd, 2, none⟩ = some (.string s) := (blk_cell BD.out 2).trans rfl; have hcz_3 : ws.cell? ⟨gd, 3, none⟩ = some (.slice A0 v.length c0) := (blk_cell BD.out 3).trans rfl; have hcz_4 : ws.cell? ⟨gd, 4, none⟩ = some (.string l) := (blk_cell BD.out 4).trans rfl; have hcz_5 : ws.cell? ⟨gd, 5, none⟩ = some (.string t) := (blk_cell BD.out 5).trans rfl))
    have HBS := HB
    have HRS := Aside0.mk (Kd.C_below HR.out HBS.out)
    clear HB hcz_0 hcz_1 hcz_2 hcz_3 hcz_4 hcz_5
    go_upto_region 4 with (fail)
    have x0_ := Aside0.mk (show WrR ws (ws.alloc (Obj.cells #[.slice none 0 0, .int .i64 0] 55)) ws.heap.size [] 0 from ⟨.slice none 0 0, blk_new ws _, Nat.le_refl _, Kd.R_nil _ _ _ _ _⟩)
    have x1_ := Aside0.mk (show Below ws.heap.size ws (ws.alloc (Obj.cells #[.slice none 0 0, .int .i64 0] 55)) from below_alloc (Below.refl _ _) _)
    generalize (ws.alloc (Obj.cells #[.slice none 0 0, .int .i64 0] 55)) = wn at x0_ x1_ ⊢
    generalize ws.heap.size = g at x0_ ⊢
    have HI := x0_
    have HB := x1_
    clear x0_ x1_
    have hcz_0 : wn.cell? ⟨gd, 0, none⟩ = some (.int .i64 kd) := (blk_cell (blk_below BD.out HB.out) 0).trans rfl; have hcz_1 : wn.cell? ⟨gd, 1, none⟩ = some (.string c) := (blk_cell (blk_below BD.out HB.out) 1).trans rfl; have hcz_2 : wn.cell? ⟨gd, 2, none⟩ = some (.string s) := (blk_cell (blk_below BD.out HB.out) 2).trans rfl; have hcz_3 : wn.cell? ⟨gd, 3, none⟩ = some (.slice A0 v.length c0) := (blk_cell (blk_below BD.out HB.out) 3).trans rfl; have hcz_4 : wn.cell? ⟨gd, 4, none⟩ = some (.string l) := (blk_cell (blk_below BD.out HB.out) 4).trans rfl; have hcz_5 : wn.cell? ⟨gd, 5, none⟩ = some (.string t) := (blk_cell (blk_below BD.out HB.out) 5).trans rfl
    cases rb with
    | false =>
      clear HGOOD
      have hl4 : ([] ++ be4 7).length = 4 := rfl
      go_wp2_with (first | (go_at_call 44; (with_reducible refine (num_good g [] 7 (by decide) (by decide) (by decide) ws _ HI.out HB.out).mono ?_); rintro er w1 ⟨rfl, hI1, hB1, hK1⟩; have n0_ := Aside0.mk hI1; have n1_ := Aside0.mk hB1; clear HI HB hI1 hB1 hK1; clear hcz_0 hcz_1 hcz_2 hcz_3 hcz_4 hcz_5; have HI := n0_; have HB := n1_; clear n0_ n1_; have hcz_0 : w1.cell? ⟨gd, 0, none⟩ = some (.int .i64 kd) := (blk_cell (blk_below BD.out HB.out) 0).trans rfl; have hcz_1 : w1.cell? ⟨gd, 1, none⟩ = some (.string c) := (blk_cell (blk_below BD.out HB.out) 1).trans rfl; have hcz_2 : w1.cell? ⟨gd, 2, none⟩ = some (.string s) := (blk_cell (blk_below BD.out HB.out) 2).trans rfl; have hcz_3 : w1.cell? ⟨gd, 3, none⟩ = some (.slice A0 v.length c0) := (blk_cell (blk_below BD.out HB.out) 3).trans rfl; have hcz_4 : w1.cell? ⟨gd, 4, none⟩ = some (.string l) := (blk_cell (blk_below BD.out HB.out) 4).trans rfl; have hcz_5 : w1.cell? ⟨gd, 5, none⟩ = some (.string t) := (blk_cell (blk_below BD.out HB.out) 5).trans rfl) | (go_at_call 45; (with_reducible refine (write_bad g ([] ++ be4 7) k kd c s A0 c0 v l t ws _ HI.out HB.out HRS.out HC.out HRT.out).mono ?_); rintro er w2 ⟨rfl, hI1, hB1, hK1⟩; have n0_ := Aside0.mk hI1; have n1_ := Aside0.mk hB1; clear HI HB hI1 hB1 hK1; clear hcz_0 hcz_1 hcz_2 hcz_3 hcz_4 hcz_5; have HI := n0_; have HB := n1_; clear n0_ n1_; have hcz_0 : w2.cell? ⟨gd, 0, none⟩ = some (.int .i64 kd) := (blk_cell (blk_below BD.out HB.out) 0).trans rfl; have hcz_1 : w2.cell? ⟨gd, 1, none⟩ = some (.string c) := (blk_cell (blk_below BD.out HB.out) 1).trans rfl; have hcz_2 : w2.cell? ⟨gd, 2, none⟩ = some (.string s) := (blk_cell (blk_below BD.out HB.out) 2).trans rfl; have hcz_3 : w2.cell? ⟨gd, 3, none⟩ = some (.slice A0 v.length c0) := (blk_cell (blk_below BD.out HB.out) 3).trans rfl; have hcz_4 : w2.cell? ⟨gd, 4, none⟩ = some (.string l) := (blk_cell (blk_below BD.out HB.out) 4).trans rfl; have hcz_5 : w2.cell? ⟨gd, 5, none⟩ = some (.string t) := (blk_cell (blk_below BD.out HB.out) 5).trans rfl) | (go_at_call 34; (with_reducible refine (monticuleref07_Right.calls k kd c s _ _ v l t false _ ?side1 HC.out HRR.out).mono ?_); (case side1 => exact (Kd.C_below HRS.out HB.out)); rintro er w3 ⟨rfl, hb_⟩; have n0_ := Aside0.mk (WrR.below HI.out hb_); have n1_ := Aside0.mk (below_step HB.out hb_); clear HI HB hb_; clear hcz_0 hcz_1 hcz_2 hcz_3 hcz_4 hcz_5; have HI := n0_; have HB := n1_; clear n0_ n1_; have hcz_0 : w3.cell? ⟨gd, 0, none⟩ = some (.int .i64 kd) := (blk_cell (blk_below BD.out HB.out) 0).trans rfl; have hcz_1 : w3.cell? ⟨gd, 1, none⟩ = some (.string c) := (blk_cell (blk_below BD.out HB.out) 1).trans rfl; have hcz_2 : w3.cell? ⟨gd, 2, none⟩ = some (.string s) := (blk_cell (blk_below BD.out HB.out) 2).trans rfl; have hcz_3 : w3.cell? ⟨gd, 3, none⟩ = some (.slice A0 v.length c0) := (blk_cell (blk_below BD.out HB.out) 3).trans rfl; have hcz_4 : w3.cell? ⟨gd, 4, none⟩ = some (.string l) := (blk_cell (blk_below BD.out HB.out) 4).trans rfl; have hcz_5 : w3.cell? ⟨gd, 5, none⟩ = some (.string t) := (blk_cell (blk_below BD.out HB.out) 5).trans rfl) | (go_at_call 46; (with_reducible refine (wr_err g ([] ++ be4 7) 2 ws _ HI.out HB.out).mono ?_); rintro er w4 ⟨rfl, hI1, hB1, hK1⟩; have n0_ := Aside0.mk hI1; have n1_ := Aside0.mk hB1; clear HI HB hI1 hB1 hK1; clear hcz_0 hcz_1 hcz_2 hcz_3 hcz_4 hcz_5; have HI := n0_; have HB := n1_; clear n0_ n1_; have hcz_0 : w4.cell? ⟨gd, 0, none⟩ = some (.int .i64 kd) := (blk_cell (blk_below BD.out HB.out) 0).trans rfl; have hcz_1 : w4.cell? ⟨gd, 1, none⟩ = some (.string c) := (blk_cell (blk_below BD.out HB.out) 1).trans rfl; have hcz_2 : w4.cell? ⟨gd, 2, none⟩ = some (.string s) := (blk_cell (blk_below BD.out HB.out) 2).trans rfl; have hcz_3 : w4.cell? ⟨gd, 3, none⟩ = some (.slice A0 v.length c0) := (blk_cell (blk_below BD.out HB.out) 3).trans rfl; have hcz_4 : w4.cell? ⟨gd, 4, none⟩ = some (.string l) := (blk_cell (blk_below BD.out HB.out) 4).trans rfl; have hcz_5 : w4.cell? ⟨gd, 5, none⟩ = some (.string t) := (blk_cell (blk_below BD.out HB.out) 5).trans rfl) | (go_at_call 47; (with_reducible refine (wr_bytes g ([] ++ be4 7) 2 (by decide) ws _ HI.out).mono ?_); rintro er w5 ⟨vb, rfl, hO1, hb_⟩; obtain ⟨Ab, cb, rfl, hlb, hCb⟩ := Kd.R_reads hO1; have HCb := Aside0.mk hCb; have HLb := Aside0.mk hlb; clear hO1 hlb hCb; have n0_ := Aside0.mk (WrR.below HI.out hb_); have n1_ := Aside0.mk (below_step HB.out hb_); clear HI HB hb_; clear hcz_0 hcz_1 hcz_2 hcz_3 hcz_4 hcz_5; have HI := n0_; have HB := n1_; clear n0_ n1_; have hcz_0 : w5.cell? ⟨gd, 0, none⟩ = some (.int .i64 kd) := (blk_cell (blk_below BD.out HB.out) 0).trans rfl; have hcz_1 : w5.cell? ⟨gd, 1, none⟩ = some (.string c) := (blk_cell (blk_below BD.out HB.out) 1).trans rfl; have hcz_2 : w5.cell? ⟨gd, 2, none⟩ = some (.string s) := (blk_cell (blk_below BD.out HB.out) 2).trans rfl; have hcz_3 : w5.cell? ⟨gd, 3, none⟩ = some (.slice A0 v.length c0) := (blk_cell (blk_below BD.out HB.out) 3).trans rfl; have hcz_4 : w5.cell? ⟨gd, 4, none⟩ = some (.string l) := (blk_cell (blk_below BD.out HB.out) 4).trans rfl; have hcz_5 : w5.cell? ⟨gd, 5, none⟩ = some (.string t) := (blk_cell (blk_below BD.out HB.out) 5).trans rfl))
      go_ret
      exact ⟨rfl, below_step HBS.out HB.out⟩
    | true =>
      obtain ⟨hKD, hSZ, hSV, hN7, hOD, hOB, hcat, hLO, hBY, hQ7, hBY1, hLO1, hQR, hSAME⟩ := HGOOD.out rfl
      have HKD := Aside0.mk hKD
      have HSZ := Aside0.mk hSZ
      have HSV := Aside0.mk hSV
      have HN7 := Aside0.mk hN7
      have HOD := Aside0.mk hOD
      have HOB := Aside0.mk hOB
      have HLO := Aside0.mk hLO
      have HBY := Aside0.mk hBY
      have HQ7 := Aside0.mk hQ7
      have HBY1 := Aside0.mk hBY1
      have HLO1 := Aside0.mk hLO1
      have HQR := Aside0.mk hQR
      have HSAME := Aside0.mk hSAME
      have hsum : (9223372036854775807 < n7.size + od.size) = False := eq_false (by
        have h1 : (n7 ++ od).size = n7.size + od.size := ByteArray.size_append
        rw [hcat, strOf_size] at h1
        omega)
      clear HGOOD hKD hSZ hSV hN7 hOD hOB hLO hBY hQ7 hBY1 hLO1 hQR hSAME
      go_upto_region 9 with (first | (go_at_call 44; (with_reducible refine (num_good g [] 7 (by decide) (by decide) (by decide) ws _ HI.out HB.out).mono ?_); rintro er w1 ⟨rfl, hI1, hB1, hK1⟩; have n0_ := Aside0.mk hI1; have n1_ := Aside0.mk hB1; clear HI HB hI1 hB1 hK1; clear hcz_0 hcz_1 hcz_2 hcz_3 hcz_4 hcz_5; have HI := n0_; have HB := n1_; clear n0_ n1_; have hcz_0 : w1.cell? ⟨gd, 0, none⟩ = some (.int .i64 kd) := (blk_cell (blk_below BD.out HB.out) 0).trans rfl; have hcz_1 : w1.cell? ⟨gd, 1, none⟩ = some (.string c) := (blk_cell (blk_below BD.out HB.out) 1).trans rfl; have hcz_2 : w1.cell? ⟨gd, 2, none⟩ = some (.string s) := (blk_cell (blk_below BD.out HB.out) 2).trans rfl; have hcz_3 : w1.cell? ⟨gd, 3, none⟩ = some (.slice A0 v.length c0) := (blk_cell (blk_below BD.out HB.out) 3).trans rfl; have hcz_4 : w1.cell? ⟨gd, 4, none⟩ = some (.string l) := (blk_cell (blk_below BD.out HB.out) 4).trans rfl; have hcz_5 : w1.cell? ⟨gd, 5, none⟩ = some (.string t) := (blk_cell (blk_below BD.out HB.out) 5).trans rfl) | (go_at_call 45; (with_reducible refine (write_good g ([] ++ be4 7) k kd c s A0 c0 v l t ws _ HI.out HB.out HRS.out HC.out HRT.out HKD.out (by have := HSZ.out; exact ⟨by decide, this⟩) HSV.out).mono ?_); rintro er w2 ⟨rfl, hI1, hB1, hK1⟩; rw [HOB.out] at hI1; have n0_ := Aside0.mk hI1; have n1_ := Aside0.mk hB1; clear HI HB hI1 hB1 hK1; clear hcz_0 hcz_1 hcz_2 hcz_3 hcz_4 hcz_5; have HI := n0_; have HB := n1_; clear n0_ n1_; have hcz_0 : w2.cell? ⟨gd, 0, none⟩ = some (.int .i64 kd) := (blk_cell (blk_below BD.out HB.out) 0).trans rfl; have hcz_1 : w2.cell? ⟨gd, 1, none⟩ = some (.string c) := (blk_cell (blk_below BD.out HB.out) 1).trans rfl; have hcz_2 : w2.cell? ⟨gd, 2, none⟩ = some (.string s) := (blk_cell (blk_below BD.out HB.out) 2).trans rfl; have hcz_3 : w2.cell? ⟨gd, 3, none⟩ = some (.slice A0 v.length c0) := (blk_cell (blk_below BD.out HB.out) 3).trans rfl; have hcz_4 : w2.cell? ⟨gd, 4, none⟩ = some (.string l) := (blk_cell (blk_below BD.out HB.out) 4).trans rfl; have hcz_5 : w2.cell? ⟨gd, 5, none⟩ = some (.string t) := (blk_cell (blk_below BD.out HB.out) 5).trans rfl) | (go_at_call 34; (with_reducible refine (monticuleref07_Right.calls k kd c s _ _ v l t true _ ?side1 HC.out HRR.out).mono ?_); (case side1 => exact (Kd.C_below HRS.out HB.out)); rintro er w3 ⟨rfl, hb_⟩; have n0_ := Aside0.mk (WrR.below HI.out hb_); have n1_ := Aside0.mk (below_step HB.out hb_); clear HI HB hb_; clear hcz_0 hcz_1 hcz_2 hcz_3 hcz_4 hcz_5; have HI := n0_; have HB := n1_; clear n0_ n1_; have hcz_0 : w3.cell? ⟨gd, 0, none⟩ = some (.int .i64 kd) := (blk_cell (blk_below BD.out HB.out) 0).trans rfl; have hcz_1 : w3.cell? ⟨gd, 1, none⟩ = some (.string c) := (blk_cell (blk_below BD.out HB.out) 1).trans rfl; have hcz_2 : w3.cell? ⟨gd, 2, none⟩ = some (.string s) := (blk_cell (blk_below BD.out HB.out) 2).trans rfl; have hcz_3 : w3.cell? ⟨gd, 3, none⟩ = some (.slice A0 v.length c0) := (blk_cell (blk_below BD.out HB.out) 3).trans rfl; have hcz_4 : w3.cell? ⟨gd, 4, none⟩ = some (.string l) := (blk_cell (blk_below BD.out HB.out) 4).trans rfl; have hcz_5 : w3.cell? ⟨gd, 5, none⟩ = some (.string t) := (blk_cell (blk_below BD.out HB.out) 5).trans rfl) | (go_at_call 48; (with_reducible refine (monticuleref01_Num.calls k 7 n7 true _ HN7.out).mono ?_); rintro er w4 ⟨rfl, hb_⟩; have n0_ := Aside0.mk (WrR.below HI.out hb_); have n1_ := Aside0.mk (below_step HB.out hb_); clear HI HB hb_; clear hcz_0 hcz_1 hcz_2 hcz_3 hcz_4 hcz_5; have HI := n0_; have HB := n1_; clear n0_ n1_; have hcz_0 : w4.cell? ⟨gd, 0, none⟩ = some (.int .i64 kd) := (blk_cell (blk_below BD.out HB.out) 0).trans rfl; have hcz_1 : w4.cell? ⟨gd, 1, none⟩ = some (.string c) := (blk_cell (blk_below BD.out HB.out) 1).trans rfl; have hcz_2 : w4.cell? ⟨gd, 2, none⟩ = some (.string s) := (blk_cell (blk_below BD.out HB.out) 2).trans rfl; have hcz_3 : w4.cell? ⟨gd, 3, none⟩ = some (.slice A0 v.length c0) := (blk_cell (blk_below BD.out HB.out) 3).trans rfl; have hcz_4 : w4.cell? ⟨gd, 4, none⟩ = some (.string l) := (blk_cell (blk_below BD.out HB.out) 4).trans rfl; have hcz_5 : w4.cell? ⟨gd, 5, none⟩ = some (.string t) := (blk_cell (blk_below BD.out HB.out) 5).trans rfl))
      refine start_ (n := 11) (S := fun w' => w'.cell? ⟨gd, 0, none⟩ = some (.int .i64 kd) ∧ w'.cell? ⟨gd, 1, none⟩ = some (.string c) ∧ w'.cell? ⟨gd, 2, none⟩ = some (.string s) ∧ w'.cell? ⟨gd, 3, none⟩ = some (.slice A0 v.length c0) ∧ w'.cell? ⟨gd, 4, none⟩ = some (.string l) ∧ w'.cell? ⟨gd, 5, none⟩ = some (.string t)) (ds := []) #[false, false, false, false, false, false, false, false, false, false, false] (by kernel_rfl) rfl rfl ⟨((blk_cell (blk_below BD.out HB.out) 0).trans rfl), ((blk_cell (blk_below BD.out HB.out) 1).trans rfl), ((blk_cell (blk_below BD.out HB.out) 2).trans rfl), ((blk_cell (blk_below BD.out HB.out) 3).trans rfl), ((blk_cell (blk_below BD.out HB.out) 4).trans rfl), ((blk_cell (blk_below BD.out HB.out) 5).trans rfl)⟩ (fun hHeld => ?_); refine with_tabW wback.tab9 wback.bits9 (fun HT_ HW_ => ?_)
      have y0_ := Aside0.mk (WrR.drew HI.out)
      have y1_ := Aside0.mk (below_drew1 HB.out)
      clear HI HB hcz_0 hcz_1 hcz_2 hcz_3 hcz_4 hcz_5
      generalize w4.drew = wg at y0_ y1_ hHeld ⊢
      have HI := y0_
      have HB := y1_
      clear y0_ y1_
      refine one_ (i := 0) (N := some 36) #[true, false, false, false, false, false, false, false, false, false, false] rfl rfl (one_of HT_.out (by kernel_rfl)) (by decide) (fun K hK => ?_)
      refine goes_ Tryd.func46 (by kernel_rfl) rfl #[.pointer (some ⟨g, 0, none⟩)] (by rfl) rfl rfl (by (try simp only [List.map_toArray, List.map_cons, List.map_nil]); first | done | rfl | (simp only [List.length_drop, List.length_take]; rfl)) ?_
      with_reducible refine (wr_err g ob 0 ws _ HI.out HB.out).mono ?_
      rintro er w5 ⟨rfl, hI1, hB1, hK1⟩
      have y0_ := Aside0.mk hI1
      have y1_ := Aside0.mk hB1
      clear HI HB hI1 hB1 hK1
      have HI := y0_
      have HB := y1_
      clear y0_ y1_
      refine ⟨_, rfl, ?_⟩
      refine hK.out _ _ ⟨((blk_cell (blk_below BD.out HB.out) 0).trans rfl), ((blk_cell (blk_below BD.out HB.out) 1).trans rfl), ((blk_cell (blk_below BD.out HB.out) 2).trans rfl), ((blk_cell (blk_below BD.out HB.out) 3).trans rfl), ((blk_cell (blk_below BD.out HB.out) 4).trans rfl), ((blk_cell (blk_below BD.out HB.out) 5).trans rfl)⟩ (fun hHeld => ?_)
      clear hK K
      refine norm_ (a' := ?_) ?_ ?_
      rotate_left
      · show Act.put _ (some 36) _ = _
        simp only [Act.put, List.setIfInBounds_toArray, List.set_cons_zero, List.set_cons_succ, i64_w, i32_w]
        rfl
      refine pure_ (i := 1) (N := some 37) (v := ?_) (a' := ?_) #[true, true, false, false, false, false, false, false, false, false, false] rfl rfl (any_of HT_.out (by kernel_rfl)) (fun _ _ _ h => h) (Or.inl ⟨by rfl, ?_⟩) ?_ ?_
      rotate_left
      · intro w'
        go_simp
        with_reducible rfl
      rotate_left
      · simp only [Act.put, List.setIfInBounds_toArray, List.set_cons_zero, List.set_cons_succ, i64_w, i32_w]
        rfl
      refine pure_ (i := 2) (N := some 38) (v := ?_) (a' := ?_) #[true, true, true, false, false, false, false, false, false, false, false] rfl rfl (any_of HT_.out (by kernel_rfl)) (fun _ _ _ h => h) (Or.inl ⟨by rfl, ?_⟩) ?_ ?_
      rotate_left
      · intro w'
        go_simp
        with_reducible rfl
      rotate_left
      · simp only [Act.put, List.setIfInBounds_toArray, List.set_cons_zero, List.set_cons_succ, i64_w, i32_w]
        rfl
      refine pure_ (i := 5) (N := some 41) (v := ?_) (a' := ?_) #[true, true, true, false, false, true, false, false, false, false, false] rfl rfl (any_of HT_.out (by kernel_rfl)) (fun _ _ _ h => h) (Or.inl ⟨by rfl, ?_⟩) ?_ ?_
      rotate_left
      · intro w'
        go_simp
        with_reducible rfl
      rotate_left
      · simp only [Act.put, List.setIfInBounds_toArray, List.set_cons_zero, List.set_cons_succ, i64_w, i32_w]
        rfl
      refine take_ (i := 6) (N := some 42) (v := ?_) (a' := ?_) #[true, true, true, false, false, true, true, false, false, false, false] rfl rfl (take_ofW HT_.out HW_.out (by kernel_rfl)) (fun _ _ _ h => h) (Or.inl ⟨by rfl, ?_⟩) hHeld ?_ ?_
      rotate_left
      · rintro w' ⟨s0, s1, s2, s3, s4, s5⟩
        go_simp
        with_reducible rfl
      rotate_left
      · simp only [Act.put, List.setIfInBounds_toArray, List.set_cons_zero, List.set_cons_succ, i64_w, i32_w]
        rfl
      refine one_ (i := 3) (N := some 39) #[true, true, true, true, false, true, true, false, false, false, false] rfl rfl (one_of HT_.out (by kernel_rfl)) (by decide) (fun K hK => ?_)
      refine goes_ Tryd.func47 (by kernel_rfl) rfl #[.pointer (some ⟨g, 0, none⟩)] (by rfl) rfl rfl (by (try simp only [List.map_toArray, List.map_cons, List.map_nil]); first | done | rfl | (simp only [List.length_drop, List.length_take]; rfl)) ?_
      with_reducible refine (wr_bytes g ob 0 (by have := HLO.out; omega) ws _ HI.out).mono ?_
      rintro er w6 ⟨vb, rfl, hO1, hb_⟩
      obtain ⟨Ab, cb, rfl, hlb, hCb⟩ := Kd.R_reads hO1
      have HCb := Aside0.mk hCb
      have HLb := Aside0.mk hlb
      have y0_ := Aside0.mk (WrR.below HI.out hb_)
      have y1_ := Aside0.mk (below_step HB.out hb_)
      clear HI HB hO1 hlb hCb hb_
      have HI := y0_
      have HB := y1_
      clear y0_ y1_
      refine ⟨_, rfl, ?_⟩
      refine hK.out _ _ ⟨((blk_cell (blk_below BD.out HB.out) 0).trans rfl), ((blk_cell (blk_below BD.out HB.out) 1).trans rfl), ((blk_cell (blk_below BD.out HB.out) 2).trans rfl), ((blk_cell (blk_below BD.out HB.out) 3).trans rfl), ((blk_cell (blk_below BD.out HB.out) 4).trans rfl), ((blk_cell (blk_below BD.out HB.out) 5).trans rfl)⟩ (fun hHeld => ?_)
      clear hK K
      refine norm_ (a' := ?_) ?_ ?_
      rotate_left
      · show Act.put _ (some 39) _ = _
        simp only [Act.put, List.setIfInBounds_toArray, List.set_cons_zero, List.set_cons_succ, i64_w, i32_w]
        rfl
      refine two_ (i := 4) (j := 7) (Ni := some 40) (Nj := some 43) #[true, true, true, true, true, true, true, false, false, false, false] #[true, true, true, true, false, true, true, true, false, false, false] rfl rfl rfl rfl (by kernel_rfl) (by decide) (by decide) (fun K hK => ?_) (fun K hK => ?_)
      · skip
        have hcv := Kd.C_string (P := Tryd.prog) (c := cb) Tryd.underlying40 Tryd.underlying5 Tryd.underlying9 HCb.out
        refine value_ (w1 := ?_) (v := ?_) (by rfl) rfl ?_ ?_
        rotate_left 2
        · go_simp
          constructor
          · rfl
          · rfl
        refine hK.out _ _ ⟨((blk_cell (blk_below BD.out HB.out) 0).trans rfl), ((blk_cell (blk_below BD.out HB.out) 1).trans rfl), ((blk_cell (blk_below BD.out HB.out) 2).trans rfl), ((blk_cell (blk_below BD.out HB.out) 3).trans rfl), ((blk_cell (blk_below BD.out HB.out) 4).trans rfl), ((blk_cell (blk_below BD.out HB.out) 5).trans rfl)⟩ (fun hHeld => ?_)
        clear hK K
        refine norm_ (a' := ?_) ?_ ?_
        rotate_left
        · show Act.put _ (some 40) _ = _
          simp only [Act.put, List.setIfInBounds_toArray, List.set_cons_zero, List.set_cons_succ, i64_w, i32_w]
          rfl
        clear hcv
        refine one_ (i := 7) (N := some 43) #[true, true, true, true, true, true, true, true, false, false, false] rfl rfl (one_of HT_.out (by kernel_rfl)) (by decide) (fun K hK => ?_)
        refine goes_ Tryd.func49 (by kernel_rfl) rfl #[.agg #[.int .i64 kd, .string c, .string s, .slice A0 v.length c0, .string l, .string t]] (by rfl) rfl rfl (by (try simp only [List.map_toArray, List.map_cons, List.map_nil]); first | done | rfl | (simp only [List.length_drop, List.length_take]; rfl)) ?_
        with_reducible refine (monticuleref07_Octets.calls k kd c s _ _ v l t od _ (Kd.C_below HRS.out HB.out) HC.out HOD.out).mono ?_
        rintro er w7 ⟨rfl, hb_⟩
        have y0_ := Aside0.mk (WrR.below HI.out hb_)
        have y1_ := Aside0.mk (below_step HB.out hb_)
        have y2_ := Aside0.mk (Kd.C_below HCb.out hb_)
        clear HI HB HCb hb_
        have HI := y0_
        have HB := y1_
        have HCb := y2_
        clear y0_ y1_ y2_
        refine ⟨_, rfl, ?_⟩
        refine hK.out _ _ ⟨((blk_cell (blk_below BD.out HB.out) 0).trans rfl), ((blk_cell (blk_below BD.out HB.out) 1).trans rfl), ((blk_cell (blk_below BD.out HB.out) 2).trans rfl), ((blk_cell (blk_below BD.out HB.out) 3).trans rfl), ((blk_cell (blk_below BD.out HB.out) 4).trans rfl), ((blk_cell (blk_below BD.out HB.out) 5).trans rfl)⟩ (fun hHeld => ?_)
        clear hK K
        refine norm_ (a' := ?_) ?_ ?_
        rotate_left
        · show Act.put _ (some 43) _ = _
          simp only [Act.put, List.setIfInBounds_toArray, List.set_cons_zero, List.set_cons_succ, i64_w, i32_w]
          rfl
        refine pure_ (i := 8) (N := some 44) (v := ?_) (a' := ?_) #[true, true, true, true, true, true, true, true, true, false, false] rfl rfl (any_of HT_.out (by kernel_rfl)) (fun _ _ _ h => h) (Or.inl ⟨by rfl, ?_⟩) ?_ ?_
        rotate_left
        · intro w'
          go_simp
          with_reducible rfl
        rotate_left
        · simp only [Act.put, List.setIfInBounds_toArray, List.set_cons_zero, List.set_cons_succ, i64_w, i32_w]
          rfl
        refine pure_ (i := 9) (N := some 45) (v := ?_) (a' := ?_) #[true, true, true, true, true, true, true, true, true, true, false] rfl rfl (any_of HT_.out (by kernel_rfl)) (fun _ _ _ h => h) (Or.inl ⟨by rfl, ?_⟩) ?_ ?_
        rotate_left
        · intro w'
          go_simp
          with_reducible rfl
        rotate_left
        · simp only [Act.put, List.setIfInBounds_toArray, List.set_cons_zero, List.set_cons_succ, i64_w, i32_w]
          rfl
        refine pure_ (i := 10) (N := some 46) (v := ?_) (a' := ?_) #[true, true, true, true, true, true, true, true, true, true, true] rfl rfl (any_of HT_.out (by kernel_rfl)) (fun _ _ _ h => h) (Or.inl ⟨by rfl, ?_⟩) ?_ ?_
        rotate_left
        · intro w'
          go_simp
          with_reducible rfl
        rotate_left
        · simp only [Act.put, List.setIfInBounds_toArray, List.set_cons_zero, List.set_cons_succ, i64_w, i32_w]
          rfl
        refine done_ (done_of HT_.out (by kernel_rfl)) ?_
        have hcz_0 : w7.cell? ⟨gd, 0, none⟩ = some (.int .i64 kd) := (blk_cell (blk_below BD.out HB.out) 0).trans rfl; have hcz_1 : w7.cell? ⟨gd, 1, none⟩ = some (.string c) := (blk_cell (blk_below BD.out HB.out) 1).trans rfl; have hcz_2 : w7.cell? ⟨gd, 2, none⟩ = some (.string s) := (blk_cell (blk_below BD.out HB.out) 2).trans rfl; have hcz_3 : w7.cell? ⟨gd, 3, none⟩ = some (.slice A0 v.length c0) := (blk_cell (blk_below BD.out HB.out) 3).trans rfl; have hcz_4 : w7.cell? ⟨gd, 4, none⟩ = some (.string l) := (blk_cell (blk_below BD.out HB.out) 4).trans rfl; have hcz_5 : w7.cell? ⟨gd, 5, none⟩ = some (.string t) := (blk_cell (blk_below BD.out HB.out) 5).trans rfl
        go_upto_region 13 with (first | (go_at_call 47; (with_reducible refine (wr_bytes g ob 0 (by have := HLO.out; omega) ws _ HI.out).mono ?_); rintro er w8 ⟨vb, rfl, hO1, hb_⟩; obtain ⟨Ab, cb, rfl, hlb, hCb⟩ := Kd.R_reads hO1; have HCb := Aside0.mk hCb; have HLb := Aside0.mk hlb; clear hO1 hlb hCb; have n0_ := Aside0.mk (WrR.below HI.out hb_); have n1_ := Aside0.mk (below_step HB.out hb_); clear HI HB hb_; clear hcz_0 hcz_1 hcz_2 hcz_3 hcz_4 hcz_5; have HI := n0_; have HB := n1_; clear n0_ n1_; have hcz_0 : w8.cell? ⟨gd, 0, none⟩ = some (.int .i64 kd) := (blk_cell (blk_below BD.out HB.out) 0).trans rfl; have hcz_1 : w8.cell? ⟨gd, 1, none⟩ = some (.string c) := (blk_cell (blk_below BD.out HB.out) 1).trans rfl; have hcz_2 : w8.cell? ⟨gd, 2, none⟩ = some (.string s) := (blk_cell (blk_below BD.out HB.out) 2).trans rfl; have hcz_3 : w8.cell? ⟨gd, 3, none⟩ = some (.slice A0 v.length c0) := (blk_cell (blk_below BD.out HB.out) 3).trans rfl; have hcz_4 : w8.cell? ⟨gd, 4, none⟩ = some (.string l) := (blk_cell (blk_below BD.out HB.out) 4).trans rfl; have hcz_5 : w8.cell? ⟨gd, 5, none⟩ = some (.string t) := (blk_cell (blk_below BD.out HB.out) 5).trans rfl) | (go_at_call 39; (with_reducible refine (open_calls Ab cb ob _ HCb.out HLb.out (by have := HLO.out; omega)).mono ?_); rintro er w9 ⟨g2, wo, rfl, hb0, hI1, hB1⟩; have n0_ := Aside0.mk (below_step HB.out hb0); have n1_ := Aside0.mk (blk_below BD.out n0_.out); have n2_ := Aside0.mk (Kd.C_below HRS.out n0_.out); have n3_ := Aside0.mk hI1; have n4_ := Aside0.mk hB1; clear HI HB BD HCb HLb hb0 hI1 hB1; clear hcz_0 hcz_1 hcz_2 hcz_3 hcz_4 hcz_5; have HBO := n0_; have BD := n1_; have HRO := n2_; have HI := n3_; have HB := n4_; clear n0_ n1_ n2_ n3_ n4_; have hcz_0 : w9.cell? ⟨gd, 0, none⟩ = some (.int .i64 kd) := (blk_cell (blk_below BD.out HB.out) 0).trans rfl; have hcz_1 : w9.cell? ⟨gd, 1, none⟩ = some (.string c) := (blk_cell (blk_below BD.out HB.out) 1).trans rfl; have hcz_2 : w9.cell? ⟨gd, 2, none⟩ = some (.string s) := (blk_cell (blk_below BD.out HB.out) 2).trans rfl; have hcz_3 : w9.cell? ⟨gd, 3, none⟩ = some (.slice A0 v.length c0) := (blk_cell (blk_below BD.out HB.out) 3).trans rfl; have hcz_4 : w9.cell? ⟨gd, 4, none⟩ = some (.string l) := (blk_cell (blk_below BD.out HB.out) 4).trans rfl; have hcz_5 : w9.cell? ⟨gd, 5, none⟩ = some (.string t) := (blk_cell (blk_below BD.out HB.out) 5).trans rfl) | (go_at_call 50; (with_reducible refine (num_calls g2 ob 0 HBY.out wo _ HI.out HB.out).mono ?_); rintro er w10 ⟨rfl, hI1, hB1, hK1⟩; rw [HQ7.out] at hI1; simp only [] at hI1; rw [HQ7.out]; simp only []; have n0_ := Aside0.mk hI1; have n1_ := Aside0.mk hB1; clear HI HB hI1 hB1 hK1; clear hcz_0 hcz_1 hcz_2 hcz_3 hcz_4 hcz_5; have HI := n0_; have HB := n1_; clear n0_ n1_; have hcz_0 : w10.cell? ⟨gd, 0, none⟩ = some (.int .i64 kd) := (blk_cell (blk_below BD.out HB.out) 0).trans rfl; have hcz_1 : w10.cell? ⟨gd, 1, none⟩ = some (.string c) := (blk_cell (blk_below BD.out HB.out) 1).trans rfl; have hcz_2 : w10.cell? ⟨gd, 2, none⟩ = some (.string s) := (blk_cell (blk_below BD.out HB.out) 2).trans rfl; have hcz_3 : w10.cell? ⟨gd, 3, none⟩ = some (.slice A0 v.length c0) := (blk_cell (blk_below BD.out HB.out) 3).trans rfl; have hcz_4 : w10.cell? ⟨gd, 4, none⟩ = some (.string l) := (blk_cell (blk_below BD.out HB.out) 4).trans rfl; have hcz_5 : w10.cell? ⟨gd, 5, none⟩ = some (.string t) := (blk_cell (blk_below BD.out HB.out) 5).trans rfl) | (go_at_call 43; (with_reducible refine (err_calls g2 o1 0 wo _ HI.out HB.out).mono ?_); rintro er w11 ⟨rfl, hI1, hB1, hK1⟩; have n0_ := Aside0.mk hI1; have n1_ := Aside0.mk hB1; clear HI HB hI1 hB1 hK1; clear hcz_0 hcz_1 hcz_2 hcz_3 hcz_4 hcz_5; have HI := n0_; have HB := n1_; clear n0_ n1_; have hcz_0 : w11.cell? ⟨gd, 0, none⟩ = some (.int .i64 kd) := (blk_cell (blk_below BD.out HB.out) 0).trans rfl; have hcz_1 : w11.cell? ⟨gd, 1, none⟩ = some (.string c) := (blk_cell (blk_below BD.out HB.out) 1).trans rfl; have hcz_2 : w11.cell? ⟨gd, 2, none⟩ = some (.string s) := (blk_cell (blk_below BD.out HB.out) 2).trans rfl; have hcz_3 : w11.cell? ⟨gd, 3, none⟩ = some (.slice A0 v.length c0) := (blk_cell (blk_below BD.out HB.out) 3).trans rfl; have hcz_4 : w11.cell? ⟨gd, 4, none⟩ = some (.string l) := (blk_cell (blk_below BD.out HB.out) 4).trans rfl; have hcz_5 : w11.cell? ⟨gd, 5, none⟩ = some (.string t) := (blk_cell (blk_below BD.out HB.out) 5).trans rfl))
        go_upto_region 14 with (first | (go_at_call 40; (with_reducible refine (read_calls g2 o1 0 HBY1.out HLO1.out wo _ HI.out HB.out).mono ?_); rintro er w12 ⟨vv, rfl, hO1, hI1, hB1, hK1⟩; rw [HQR.out] at hI1 hO1; simp only [] at hI1 hO1; rw [HQR.out]; simp only []; obtain ⟨Av, cv, rfl, hlv, hCv⟩ := Kd.R_reads hO1; have HCv := Aside0.mk hCv; have HLV := Aside0.mk hlv; clear hO1 hlv hCv; have n0_ := Aside0.mk hI1; have n1_ := Aside0.mk hB1; clear HI HB hI1 hB1 hK1; clear hcz_0 hcz_1 hcz_2 hcz_3 hcz_4 hcz_5; have HI := n0_; have HB := n1_; clear n0_ n1_; have hcz_0 : w12.cell? ⟨gd, 0, none⟩ = some (.int .i64 kd) := (blk_cell (blk_below BD.out HB.out) 0).trans rfl; have hcz_1 : w12.cell? ⟨gd, 1, none⟩ = some (.string c) := (blk_cell (blk_below BD.out HB.out) 1).trans rfl; have hcz_2 : w12.cell? ⟨gd, 2, none⟩ = some (.string s) := (blk_cell (blk_below BD.out HB.out) 2).trans rfl; have hcz_3 : w12.cell? ⟨gd, 3, none⟩ = some (.slice A0 v.length c0) := (blk_cell (blk_below BD.out HB.out) 3).trans rfl; have hcz_4 : w12.cell? ⟨gd, 4, none⟩ = some (.string l) := (blk_cell (blk_below BD.out HB.out) 4).trans rfl; have hcz_5 : w12.cell? ⟨gd, 5, none⟩ = some (.string t) := (blk_cell (blk_below BD.out HB.out) 5).trans rfl))
        have x0_ := Aside0.mk (blk_new w12 (Obj.cells #[.int .i64 kd, .string c, .string s, .slice Av v.length cv, .string l, .string t] 31))
        have x1_ := Aside0.mk (show OcR wo (w12.alloc (Obj.cells #[.int .i64 kd, .string c, .string s, .slice Av v.length cv, .string l, .string t] 31)) g2 [] 0 from OcR.alloc HI.out _)
        have x2_ := Aside0.mk (show Below wo.heap.size wo (w12.alloc (Obj.cells #[.int .i64 kd, .string c, .string s, .slice Av v.length cv, .string l, .string t] 31)) from HB.out.alloc HB.out.size _)
        have x3_ := Aside0.mk (Kd.C_below HCv.out (below_alloc (Below.refl _ _) (Obj.cells #[.int .i64 kd, .string c, .string s, .slice Av v.length cv, .string l, .string t] 31)))
        clear HI HB HCv hcz_0 hcz_1 hcz_2 hcz_3 hcz_4 hcz_5
        generalize (w12.alloc (Obj.cells #[.int .i64 kd, .string c, .string s, .slice Av v.length cv, .string l, .string t] 31)) = wy at x0_ x1_ x2_ x3_ ⊢
        generalize w12.heap.size = gy at x0_ ⊢
        have BY := x0_
        have HI := x1_
        have HB := x2_
        have HCv := x3_
        clear x0_ x1_ x2_ x3_
        have hcz_0 : wy.cell? ⟨gd, 0, none⟩ = some (.int .i64 kd) := (blk_cell (blk_below BD.out HB.out) 0).trans rfl; have hcz_1 : wy.cell? ⟨gd, 1, none⟩ = some (.string c) := (blk_cell (blk_below BD.out HB.out) 1).trans rfl; have hcz_2 : wy.cell? ⟨gd, 2, none⟩ = some (.string s) := (blk_cell (blk_below BD.out HB.out) 2).trans rfl; have hcz_3 : wy.cell? ⟨gd, 3, none⟩ = some (.slice A0 v.length c0) := (blk_cell (blk_below BD.out HB.out) 3).trans rfl; have hcz_4 : wy.cell? ⟨gd, 4, none⟩ = some (.string l) := (blk_cell (blk_below BD.out HB.out) 4).trans rfl; have hcz_5 : wy.cell? ⟨gd, 5, none⟩ = some (.string t) := (blk_cell (blk_below BD.out HB.out) 5).trans rfl
        have hczy_0 : wy.cell? ⟨gy, 0, none⟩ = some (.int .i64 kd) := (blk_cell BY.out 0).trans rfl; have hczy_1 : wy.cell? ⟨gy, 1, none⟩ = some (.string c) := (blk_cell BY.out 1).trans rfl; have hczy_2 : wy.cell? ⟨gy, 2, none⟩ = some (.string s) := (blk_cell BY.out 2).trans rfl; have hczy_3 : wy.cell? ⟨gy, 3, none⟩ = some (.slice Av v.length cv) := (blk_cell BY.out 3).trans rfl; have hczy_4 : wy.cell? ⟨gy, 4, none⟩ = some (.string l) := (blk_cell BY.out 4).trans rfl; have hczy_5 : wy.cell? ⟨gy, 5, none⟩ = some (.string t) := (blk_cell BY.out 5).trans rfl
        go_wp2_with (first | (go_at_call 37; (with_reducible refine (monticuleref07_Same.calls k kd c s _ _ v l t kd c s _ _ v l t true _ HCv.out HLV.out ?side1 HC.out HSAME.out).mono ?_); (case side1 => exact Kd.C_below HRO.out HB.out); rintro er w14 ⟨rfl, hb_⟩; have n0_ := Aside0.mk (OcR.below HI.out hb_); have n1_ := Aside0.mk (below_step HB.out hb_); clear HI HB hb_; have HI := n0_; have HB := n1_; clear n0_ n1_) | (go_at_call 51; (with_reducible refine (end_calls g2 wo _ HI.out HB.out).mono ?_); rintro er w15 ⟨rfl, hB1⟩; have n1_ := Aside0.mk hB1; clear HI HB hB1; have HB := n1_; clear n1_))
        go_ret
        exact ⟨rfl, below_step HBS.out (below_step HBO.out HB.out)⟩
      · skip
        refine goes_ Tryd.func49 (by kernel_rfl) rfl #[.agg #[.int .i64 kd, .string c, .string s, .slice A0 v.length c0, .string l, .string t]] (by rfl) rfl rfl (by (try simp only [List.map_toArray, List.map_cons, List.map_nil]); first | done | rfl | (simp only [List.length_drop, List.length_take]; rfl)) ?_
        with_reducible refine (monticuleref07_Octets.calls k kd c s _ _ v l t od _ (Kd.C_below HRS.out HB.out) HC.out HOD.out).mono ?_
        rintro er w7 ⟨rfl, hb_⟩
        have y0_ := Aside0.mk (WrR.below HI.out hb_)
        have y1_ := Aside0.mk (below_step HB.out hb_)
        have y2_ := Aside0.mk (Kd.C_below HCb.out hb_)
        clear HI HB HCb hb_
        have HI := y0_
        have HB := y1_
        have HCb := y2_
        clear y0_ y1_ y2_
        refine ⟨_, rfl, ?_⟩
        refine hK.out _ _ ⟨((blk_cell (blk_below BD.out HB.out) 0).trans rfl), ((blk_cell (blk_below BD.out HB.out) 1).trans rfl), ((blk_cell (blk_below BD.out HB.out) 2).trans rfl), ((blk_cell (blk_below BD.out HB.out) 3).trans rfl), ((blk_cell (blk_below BD.out HB.out) 4).trans rfl), ((blk_cell (blk_below BD.out HB.out) 5).trans rfl)⟩ (fun hHeld => ?_)
        clear hK K
        refine norm_ (a' := ?_) ?_ ?_
        rotate_left
        · show Act.put _ (some 43) _ = _
          simp only [Act.put, List.setIfInBounds_toArray, List.set_cons_zero, List.set_cons_succ, i64_w, i32_w]
          rfl
        refine pure_ (i := 8) (N := some 44) (v := ?_) (a' := ?_) #[true, true, true, true, false, true, true, true, true, false, false] rfl rfl (any_of HT_.out (by kernel_rfl)) (fun _ _ _ h => h) (Or.inl ⟨by rfl, ?_⟩) ?_ ?_
        rotate_left
        · intro w'
          go_simp
          with_reducible rfl
        rotate_left
        · simp only [Act.put, List.setIfInBounds_toArray, List.set_cons_zero, List.set_cons_succ, i64_w, i32_w]
          rfl
        have hcv := Kd.C_string (P := Tryd.prog) (c := cb) Tryd.underlying40 Tryd.underlying5 Tryd.underlying9 HCb.out
        refine one_ (i := 4) (N := some 40) #[true, true, true, true, true, true, true, true, true, false, false] rfl rfl (one_of HT_.out (by kernel_rfl)) (by decide) (fun K hK => ?_)
        refine value_ (w1 := ?_) (v := ?_) (by rfl) rfl ?_ ?_
        rotate_left 2
        · go_simp
          constructor
          · rfl
          · rfl
        refine hK.out _ _ ⟨((blk_cell (blk_below BD.out HB.out) 0).trans rfl), ((blk_cell (blk_below BD.out HB.out) 1).trans rfl), ((blk_cell (blk_below BD.out HB.out) 2).trans rfl), ((blk_cell (blk_below BD.out HB.out) 3).trans rfl), ((blk_cell (blk_below BD.out HB.out) 4).trans rfl), ((blk_cell (blk_below BD.out HB.out) 5).trans rfl)⟩ (fun hHeld => ?_)
        clear hK K
        refine norm_ (a' := ?_) ?_ ?_
        rotate_left
        · show Act.put _ (some 40) _ = _
          simp only [Act.put, List.setIfInBounds_toArray, List.set_cons_zero, List.set_cons_succ, i64_w, i32_w]
          rfl
        clear hcv
        refine pure_ (i := 9) (N := some 45) (v := ?_) (a' := ?_) #[true, true, true, true, true, true, true, true, true, true, false] rfl rfl (any_of HT_.out (by kernel_rfl)) (fun _ _ _ h => h) (Or.inl ⟨by rfl, ?_⟩) ?_ ?_
        rotate_left
        · intro w'
          go_simp
          with_reducible rfl
        rotate_left
        · simp only [Act.put, List.setIfInBounds_toArray, List.set_cons_zero, List.set_cons_succ, i64_w, i32_w]
          rfl
        refine pure_ (i := 10) (N := some 46) (v := ?_) (a' := ?_) #[true, true, true, true, true, true, true, true, true, true, true] rfl rfl (any_of HT_.out (by kernel_rfl)) (fun _ _ _ h => h) (Or.inl ⟨by rfl, ?_⟩) ?_ ?_
        rotate_left
        · intro w'
          go_simp
          with_reducible rfl
        rotate_left
        · simp only [Act.put, List.setIfInBounds_toArray, List.set_cons_zero, List.set_cons_succ, i64_w, i32_w]
          rfl
        refine done_ (done_of HT_.out (by kernel_rfl)) ?_
        have hcz_0 : w7.cell? ⟨gd, 0, none⟩ = some (.int .i64 kd) := (blk_cell (blk_below BD.out HB.out) 0).trans rfl; have hcz_1 : w7.cell? ⟨gd, 1, none⟩ = some (.string c) := (blk_cell (blk_below BD.out HB.out) 1).trans rfl; have hcz_2 : w7.cell? ⟨gd, 2, none⟩ = some (.string s) := (blk_cell (blk_below BD.out HB.out) 2).trans rfl; have hcz_3 : w7.cell? ⟨gd, 3, none⟩ = some (.slice A0 v.length c0) := (blk_cell (blk_below BD.out HB.out) 3).trans rfl; have hcz_4 : w7.cell? ⟨gd, 4, none⟩ = some (.string l) := (blk_cell (blk_below BD.out HB.out) 4).trans rfl; have hcz_5 : w7.cell? ⟨gd, 5, none⟩ = some (.string t) := (blk_cell (blk_below BD.out HB.out) 5).trans rfl
        go_upto_region 13 with (first | (go_at_call 47; (with_reducible refine (wr_bytes g ob 0 (by have := HLO.out; omega) ws _ HI.out).mono ?_); rintro er w8 ⟨vb, rfl, hO1, hb_⟩; obtain ⟨Ab, cb, rfl, hlb, hCb⟩ := Kd.R_reads hO1; have HCb := Aside0.mk hCb; have HLb := Aside0.mk hlb; clear hO1 hlb hCb; have n0_ := Aside0.mk (WrR.below HI.out hb_); have n1_ := Aside0.mk (below_step HB.out hb_); clear HI HB hb_; clear hcz_0 hcz_1 hcz_2 hcz_3 hcz_4 hcz_5; have HI := n0_; have HB := n1_; clear n0_ n1_; have hcz_0 : w8.cell? ⟨gd, 0, none⟩ = some (.int .i64 kd) := (blk_cell (blk_below BD.out HB.out) 0).trans rfl; have hcz_1 : w8.cell? ⟨gd, 1, none⟩ = some (.string c) := (blk_cell (blk_below BD.out HB.out) 1).trans rfl; have hcz_2 : w8.cell? ⟨gd, 2, none⟩ = some (.string s) := (blk_cell (blk_below BD.out HB.out) 2).trans rfl; have hcz_3 : w8.cell? ⟨gd, 3, none⟩ = some (.slice A0 v.length c0) := (blk_cell (blk_below BD.out HB.out) 3).trans rfl; have hcz_4 : w8.cell? ⟨gd, 4, none⟩ = some (.string l) := (blk_cell (blk_below BD.out HB.out) 4).trans rfl; have hcz_5 : w8.cell? ⟨gd, 5, none⟩ = some (.string t) := (blk_cell (blk_below BD.out HB.out) 5).trans rfl) | (go_at_call 39; (with_reducible refine (open_calls Ab cb ob _ HCb.out HLb.out (by have := HLO.out; omega)).mono ?_); rintro er w9 ⟨g2, wo, rfl, hb0, hI1, hB1⟩; have n0_ := Aside0.mk (below_step HB.out hb0); have n1_ := Aside0.mk (blk_below BD.out n0_.out); have n2_ := Aside0.mk (Kd.C_below HRS.out n0_.out); have n3_ := Aside0.mk hI1; have n4_ := Aside0.mk hB1; clear HI HB BD HCb HLb hb0 hI1 hB1; clear hcz_0 hcz_1 hcz_2 hcz_3 hcz_4 hcz_5; have HBO := n0_; have BD := n1_; have HRO := n2_; have HI := n3_; have HB := n4_; clear n0_ n1_ n2_ n3_ n4_; have hcz_0 : w9.cell? ⟨gd, 0, none⟩ = some (.int .i64 kd) := (blk_cell (blk_below BD.out HB.out) 0).trans rfl; have hcz_1 : w9.cell? ⟨gd, 1, none⟩ = some (.string c) := (blk_cell (blk_below BD.out HB.out) 1).trans rfl; have hcz_2 : w9.cell? ⟨gd, 2, none⟩ = some (.string s) := (blk_cell (blk_below BD.out HB.out) 2).trans rfl; have hcz_3 : w9.cell? ⟨gd, 3, none⟩ = some (.slice A0 v.length c0) := (blk_cell (blk_below BD.out HB.out) 3).trans rfl; have hcz_4 : w9.cell? ⟨gd, 4, none⟩ = some (.string l) := (blk_cell (blk_below BD.out HB.out) 4).trans rfl; have hcz_5 : w9.cell? ⟨gd, 5, none⟩ = some (.string t) := (blk_cell (blk_below BD.out HB.out) 5).trans rfl) | (go_at_call 50; (with_reducible refine (num_calls g2 ob 0 HBY.out wo _ HI.out HB.out).mono ?_); rintro er w10 ⟨rfl, hI1, hB1, hK1⟩; rw [HQ7.out] at hI1; simp only [] at hI1; rw [HQ7.out]; simp only []; have n0_ := Aside0.mk hI1; have n1_ := Aside0.mk hB1; clear HI HB hI1 hB1 hK1; clear hcz_0 hcz_1 hcz_2 hcz_3 hcz_4 hcz_5; have HI := n0_; have HB := n1_; clear n0_ n1_; have hcz_0 : w10.cell? ⟨gd, 0, none⟩ = some (.int .i64 kd) := (blk_cell (blk_below BD.out HB.out) 0).trans rfl; have hcz_1 : w10.cell? ⟨gd, 1, none⟩ = some (.string c) := (blk_cell (blk_below BD.out HB.out) 1).trans rfl; have hcz_2 : w10.cell? ⟨gd, 2, none⟩ = some (.string s) := (blk_cell (blk_below BD.out HB.out) 2).trans rfl; have hcz_3 : w10.cell? ⟨gd, 3, none⟩ = some (.slice A0 v.length c0) := (blk_cell (blk_below BD.out HB.out) 3).trans rfl; have hcz_4 : w10.cell? ⟨gd, 4, none⟩ = some (.string l) := (blk_cell (blk_below BD.out HB.out) 4).trans rfl; have hcz_5 : w10.cell? ⟨gd, 5, none⟩ = some (.string t) := (blk_cell (blk_below BD.out HB.out) 5).trans rfl) | (go_at_call 43; (with_reducible refine (err_calls g2 o1 0 wo _ HI.out HB.out).mono ?_); rintro er w11 ⟨rfl, hI1, hB1, hK1⟩; have n0_ := Aside0.mk hI1; have n1_ := Aside0.mk hB1; clear HI HB hI1 hB1 hK1; clear hcz_0 hcz_1 hcz_2 hcz_3 hcz_4 hcz_5; have HI := n0_; have HB := n1_; clear n0_ n1_; have hcz_0 : w11.cell? ⟨gd, 0, none⟩ = some (.int .i64 kd) := (blk_cell (blk_below BD.out HB.out) 0).trans rfl; have hcz_1 : w11.cell? ⟨gd, 1, none⟩ = some (.string c) := (blk_cell (blk_below BD.out HB.out) 1).trans rfl; have hcz_2 : w11.cell? ⟨gd, 2, none⟩ = some (.string s) := (blk_cell (blk_below BD.out HB.out) 2).trans rfl; have hcz_3 : w11.cell? ⟨gd, 3, none⟩ = some (.slice A0 v.length c0) := (blk_cell (blk_below BD.out HB.out) 3).trans rfl; have hcz_4 : w11.cell? ⟨gd, 4, none⟩ = some (.string l) := (blk_cell (blk_below BD.out HB.out) 4).trans rfl; have hcz_5 : w11.cell? ⟨gd, 5, none⟩ = some (.string t) := (blk_cell (blk_below BD.out HB.out) 5).trans rfl))
        go_upto_region 14 with (first | (go_at_call 40; (with_reducible refine (read_calls g2 o1 0 HBY1.out HLO1.out wo _ HI.out HB.out).mono ?_); rintro er w12 ⟨vv, rfl, hO1, hI1, hB1, hK1⟩; rw [HQR.out] at hI1 hO1; simp only [] at hI1 hO1; rw [HQR.out]; simp only []; obtain ⟨Av, cv, rfl, hlv, hCv⟩ := Kd.R_reads hO1; have HCv := Aside0.mk hCv; have HLV := Aside0.mk hlv; clear hO1 hlv hCv; have n0_ := Aside0.mk hI1; have n1_ := Aside0.mk hB1; clear HI HB hI1 hB1 hK1; clear hcz_0 hcz_1 hcz_2 hcz_3 hcz_4 hcz_5; have HI := n0_; have HB := n1_; clear n0_ n1_; have hcz_0 : w12.cell? ⟨gd, 0, none⟩ = some (.int .i64 kd) := (blk_cell (blk_below BD.out HB.out) 0).trans rfl; have hcz_1 : w12.cell? ⟨gd, 1, none⟩ = some (.string c) := (blk_cell (blk_below BD.out HB.out) 1).trans rfl; have hcz_2 : w12.cell? ⟨gd, 2, none⟩ = some (.string s) := (blk_cell (blk_below BD.out HB.out) 2).trans rfl; have hcz_3 : w12.cell? ⟨gd, 3, none⟩ = some (.slice A0 v.length c0) := (blk_cell (blk_below BD.out HB.out) 3).trans rfl; have hcz_4 : w12.cell? ⟨gd, 4, none⟩ = some (.string l) := (blk_cell (blk_below BD.out HB.out) 4).trans rfl; have hcz_5 : w12.cell? ⟨gd, 5, none⟩ = some (.string t) := (blk_cell (blk_below BD.out HB.out) 5).trans rfl))
        have x0_ := Aside0.mk (blk_new w12 (Obj.cells #[.int .i64 kd, .string c, .string s, .slice Av v.length cv, .string l, .string t] 31))
        have x1_ := Aside0.mk (show OcR wo (w12.alloc (Obj.cells #[.int .i64 kd, .string c, .string s, .slice Av v.length cv, .string l, .string t] 31)) g2 [] 0 from OcR.alloc HI.out _)
        have x2_ := Aside0.mk (show Below wo.heap.size wo (w12.alloc (Obj.cells #[.int .i64 kd, .string c, .string s, .slice Av v.length cv, .string l, .string t] 31)) from HB.out.alloc HB.out.size _)
        have x3_ := Aside0.mk (Kd.C_below HCv.out (below_alloc (Below.refl _ _) (Obj.cells #[.int .i64 kd, .string c, .string s, .slice Av v.length cv, .string l, .string t] 31)))
        clear HI HB HCv hcz_0 hcz_1 hcz_2 hcz_3 hcz_4 hcz_5
        generalize (w12.alloc (Obj.cells #[.int .i64 kd, .string c, .string s, .slice Av v.length cv, .string l, .string t] 31)) = wy at x0_ x1_ x2_ x3_ ⊢
        generalize w12.heap.size = gy at x0_ ⊢
        have BY := x0_
        have HI := x1_
        have HB := x2_
        have HCv := x3_
        clear x0_ x1_ x2_ x3_
        have hcz_0 : wy.cell? ⟨gd, 0, none⟩ = some (.int .i64 kd) := (blk_cell (blk_below BD.out HB.out) 0).trans rfl; have hcz_1 : wy.cell? ⟨gd, 1, none⟩ = some (.string c) := (blk_cell (blk_below BD.out HB.out) 1).trans rfl; have hcz_2 : wy.cell? ⟨gd, 2, none⟩ = some (.string s) := (blk_cell (blk_below BD.out HB.out) 2).trans rfl; have hcz_3 : wy.cell? ⟨gd, 3, none⟩ = some (.slice A0 v.length c0) := (blk_cell (blk_below BD.out HB.out) 3).trans rfl; have hcz_4 : wy.cell? ⟨gd, 4, none⟩ = some (.string l) := (blk_cell (blk_below BD.out HB.out) 4).trans rfl; have hcz_5 : wy.cell? ⟨gd, 5, none⟩ = some (.string t) := (blk_cell (blk_below BD.out HB.out) 5).trans rfl
        have hczy_0 : wy.cell? ⟨gy, 0, none⟩ = some (.int .i64 kd) := (blk_cell BY.out 0).trans rfl; have hczy_1 : wy.cell? ⟨gy, 1, none⟩ = some (.string c) := (blk_cell BY.out 1).trans rfl; have hczy_2 : wy.cell? ⟨gy, 2, none⟩ = some (.string s) := (blk_cell BY.out 2).trans rfl; have hczy_3 : wy.cell? ⟨gy, 3, none⟩ = some (.slice Av v.length cv) := (blk_cell BY.out 3).trans rfl; have hczy_4 : wy.cell? ⟨gy, 4, none⟩ = some (.string l) := (blk_cell BY.out 4).trans rfl; have hczy_5 : wy.cell? ⟨gy, 5, none⟩ = some (.string t) := (blk_cell BY.out 5).trans rfl
        go_wp2_with (first | (go_at_call 37; (with_reducible refine (monticuleref07_Same.calls k kd c s _ _ v l t kd c s _ _ v l t true _ HCv.out HLV.out ?side1 HC.out HSAME.out).mono ?_); (case side1 => exact Kd.C_below HRO.out HB.out); rintro er w14 ⟨rfl, hb_⟩; have n0_ := Aside0.mk (OcR.below HI.out hb_); have n1_ := Aside0.mk (below_step HB.out hb_); clear HI HB hb_; have HI := n0_; have HB := n1_; clear n0_ n1_) | (go_at_call 51; (with_reducible refine (end_calls g2 wo _ HI.out HB.out).mono ?_); rintro er w15 ⟨rfl, hB1⟩; have n1_ := Aside0.mk hB1; clear HI HB hB1; have HB := n1_; clear n1_))
        go_ret
        exact ⟨rfl, below_step HBS.out (below_step HBO.out HB.out)⟩
end Go.Proofs.YtjloioalhgifbaaDoor.Hd
