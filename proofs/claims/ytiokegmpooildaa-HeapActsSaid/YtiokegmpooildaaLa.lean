/- HeapActs, walked: it holds on every list of objects, every room and every list of acts. -/
import Derived.Test.YtiokegmpooildaaTw
import Derived.Test.YtiokegmpooildaaRk
import Derived.Test.YtiokegmpooildaaMf
import Derived.Test.YtiokegmpooildaaHi
import Derived.Deep.Cut
import Derived.Deep.CutRange
import Derived.Deep.CutBlock
namespace Go.Proofs.Ytiokegmpooildaa.Hp
open Go.RowKit Go.Proofs.YtiokegmpooildaaW.PrintWords Go.Proofs.YtiokegmpooildaaW.PrintLast Go.Proofs.YtiokegmpooildaaW.PrintMore Go.Proofs.Ytiokegmpooildaa.PAll
set_option linter.unusedVariables false
set_option linter.unusedSimpArgs false
theorem two_of_arg (A0 : Option Addr) (c0 : Nat) (l : List S53) (o wd : Int) (w : World) (h : ¬ roomP o wd) : Calls Try.prog 14 #[.slice A0 l.length c0, .int .i64 o, .int .i64 wd] w fun e w' => e = .returned (.tuple #[.pointer none, .int .i64 2]) ∧ Below w.heap.size w w' := by
  by_cases h1 : o < 1
  · exact of_room1 A0 c0 l o wd w h1
  by_cases h2 : 4096 < o
  · exact of_room2 A0 c0 l o wd w h2
  by_cases h3 : wd < 2
  · exact of_room3 A0 c0 l o wd w (by omega) (by omega) h3
  by_cases h4 : 1073741824 < wd
  · exact of_room4 A0 c0 l o wd w (by omega) (by omega) (by omega) h4
  exact absurd (show roomP o wd by unfold roomP; omega) h
theorem two_ref_arg (A0 : Option Addr) (c0 : Nat) (l : List S53) (o wd : Int) (w : World) (h : ¬ roomP o wd) : Calls Try.prog 21 #[.slice A0 l.length c0, .int .i64 o, .int .i64 wd] w fun e w' => e = .returned (.tuple #[.pointer none, .int .i64 2]) ∧ Below w.heap.size w w' := by
  by_cases h1 : o < 1
  · exact ref_room1 A0 c0 l o wd w h1
  by_cases h2 : 4096 < o
  · exact ref_room2 A0 c0 l o wd w h2
  by_cases h3 : wd < 2
  · exact ref_room3 A0 c0 l o wd w (by omega) (by omega) h3
  by_cases h4 : 1073741824 < wd
  · exact ref_room4 A0 c0 l o wd w (by omega) (by omega) (by omega) h4
  exact absurd (show roomP o wd by unfold roomP; omega) h
def ha.T18 : Bool × List (List Nat × List Nat) := (true, [([], []), ([0], [0]), ([], []), ([2], [2]), ([3], [3]), ([4], [4]), ([5], [5]), ([1, 6], [1, 6]), ([7, 7, 0, 1, 2, 3, 4, 5, 6, 7], [7])])
def ha.B18 : List Nat := [0, 1, 0, 4, 12, 28, 60, 127, 255]
theorem ha.tab18 : rtab .any (opsOf Try.f10 18) = ha.T18 := by kernel_rfl
theorem ha.bits18 : waitsOk ha.T18.2 ha.B18 = true := by kernel_rfl
def ha.T22 : Bool × List (List Nat × List Nat) := (true, [([], []), ([], []), ([1], [1]), ([0, 2], [0, 2]), ([3], [3]), ([4], [4]), ([4], [4]), ([5, 6, 4], [4, 5, 6]), ([4, 7], [4, 7]), ([8, 4], [8]), ([9], [9]), ([9], [9]), ([11, 9], [9, 11]), ([10, 12, 9], [9, 10, 12]), ([9, 13], [9, 13]), ([14, 9], [14]), ([15], [15]), ([15], [15]), ([16, 17, 15, 15], [15, 16, 17]), ([18, 15], [15, 18]), ([15, 19], [15, 19]), ([20, 18], [20]), ([21], [21]), ([21], [21]), ([23, 21], [21, 23]), ([22, 24, 21, 21], [21, 22, 24]), ([21], [21]), ([26, 21], [21, 26]), ([27, 21], [21, 27]), ([25, 28, 21], [21, 25, 28]), ([21, 29], [21, 29])])
def ha.B22 : List Nat := [0, 0, 2, 7, 15, 31, 31, 127, 255, 511, 1023, 1023, 3071, 8191, 16383, 32767, 65535, 65535, 262143, 524287, 1048575, 2097151, 4194303, 4194303, 12582911, 33554431, 4194303, 71303167, 205520895, 536870911, 1073741823]
theorem ha.tab22 : rtab .any (opsOf Try.f10 22) = ha.T22 := by kernel_rfl
theorem ha.bits22 : waitsOk ha.T22.2 ha.B22 = true := by kernel_rfl
def ha.T28 : Bool × List (List Nat × List Nat) := (true, [([], []), ([], []), ([1], [1]), ([], []), ([3], [3]), ([], []), ([5], [5]), ([0, 2, 4, 6], [0, 2, 4, 6]), ([], []), ([], []), ([9], [9]), ([], []), ([11], [11]), ([], []), ([13], [13]), ([8, 10, 12, 14, 7], [8, 10, 12, 14]), ([7, 15, 0, 1, 2, 3, 4, 5, 6, 7], [7]), ([15, 16, 0, 1, 2, 3, 4, 5, 6, 7, 8, 9, 10, 11, 12, 13, 14, 15, 16], [15])])
def ha.B28 : List Nat := [0, 0, 2, 0, 8, 0, 32, 127, 0, 0, 512, 0, 2048, 0, 8192, 32767, 65535, 131071]
theorem ha.tab28 : rtab .any (opsOf Try.f10 28) = ha.T28 := by kernel_rfl
theorem ha.bits28 : waitsOk ha.T28.2 ha.B28 = true := by kernel_rfl
def ha.T30 : Bool × List (List Nat × List Nat) := (true, [([], []), ([], []), ([1], [1]), ([], []), ([3], [3]), ([0, 2, 4], [0, 2, 4]), ([], []), ([], []), ([7], [7]), ([], []), ([9], [9]), ([6, 8, 10, 5], [6, 8, 10]), ([5, 11, 0, 1, 2, 3, 4, 5], [5]), ([11, 12, 0, 1, 2, 3, 4, 5, 6, 7, 8, 9, 10, 11, 12], [11])])
def ha.B30 : List Nat := [0, 0, 2, 0, 8, 31, 0, 0, 128, 0, 512, 2047, 4095, 8191]
theorem ha.tab30 : rtab .any (opsOf Try.f10 30) = ha.T30 := by kernel_rfl
theorem ha.bits30 : waitsOk ha.T30.2 ha.B30 = true := by kernel_rfl
def ha.T34 : Bool × List (List Nat × List Nat) := (true, [([], []), ([], []), ([0, 1], [0, 1]), ([2], [2]), ([3], [3]), ([3], [3]), ([4, 5, 3], [3, 4, 5]), ([3, 6], [3, 6]), ([7, 3], [7]), ([8], [8]), ([9, 8, 8], [8, 9]), ([8], [8]), ([11, 8], [8, 11]), ([12, 8], [8, 12]), ([13, 8], [8, 13]), ([10, 14, 10, 8], [8, 10, 14]), ([15, 8], [8, 15]), ([8, 16], [8, 16]), ([17, 15], [17]), ([18], [18]), ([19, 18, 18], [18, 19]), ([18], [18]), ([21, 18], [18, 21]), ([22, 18], [18, 22]), ([23, 18], [18, 23]), ([24, 20, 18], [18, 24]), ([20, 25, 18], [18, 20, 25]), ([18, 26], [18, 26])])
def ha.B34 : List Nat := [0, 0, 3, 7, 15, 15, 63, 127, 255, 511, 1023, 511, 2559, 6655, 14847, 32767, 65535, 131071, 262143, 524287, 1048575, 524287, 2621439, 6815743, 15204351, 33554431, 67108863, 134217727]
theorem ha.tab34 : rtab .any (opsOf Try.f10 34) = ha.T34 := by kernel_rfl
theorem ha.bits34 : waitsOk ha.T34.2 ha.B34 = true := by kernel_rfl
set_option maxHeartbeats 16000000 in
set_option maxRecDepth 100000 in
theorem law_acts (A0 : Option Addr) (c0 : Nat) (l : List S53) (wd : Int) (A1 : Option Addr) (c1 : Nat) (L : List S58) (w : World) (hr0 : Kd.C k53 w A0 l.length l) (hc0 : l.length ≤ c0) (hW : WordsL l) (hr1 : Kd.C k58 w A1 L.length L) (hc1 : L.length ≤ c1) (hw1 : ActsW L) :
    Calls Try.prog 10 #[.slice A0 l.length c0, .int .i64 wd, .slice A1 L.length c1] w fun e w' => e = .returned (.bool true) ∧ Below w.heap.size w w' := by
  have HR0 := Aside0.mk hr0
  have HC0 := Aside0.mk hc0
  have HW := Aside0.mk hW
  have HR1 := Aside0.mk hr1
  have HC1 := Aside0.mk hc1
  have HW1 := Aside0.mk hw1
  clear hr0 hc0 hW hr1 hc1 hw1
  have HC := Aside0.mk (Below.refl w.heap.size w)
  cases hsm : smallB l with
  | false =>
    have HSM : Aside0 (monticuleref18_Small.f 100 l = some false) := ⟨by rw [small_val, hsm]⟩
    go_enter Try.func10, Try.ntmps10
    go_wp2_with (first | (go_at_call 20; (with_reducible refine (awake18 _).mono ?_); rintro e w' ⟨rfl, hb⟩; have n0_ := Aside0.mk (below_step (by repeat (first | (with_reducible first | exact HC.out | apply below_alloc | apply pw_below_drewN | apply below_drew1) | exact HC.out)) hb); clear HC; have HC := n0_; clear n0_; clear hb) | (go_at_call 13; (with_reducible refine (monticuleref18_Small.calls 100 A0 c0 l _ _ (Kd.C_below HR0.out (by repeat (first | (with_reducible first | exact HC.out | apply below_alloc | apply pw_below_drewN | apply below_drew1) | exact HC.out))) HC0.out HSM.out).mono ?_); rintro e w' ⟨rfl, ⟨nd, rfl⟩⟩))
    go_ret
    exact ⟨rfl, HC.out⟩
  | true =>
    have HSM : Aside0 (monticuleref18_Small.f 100 l = some true) := ⟨by rw [small_val, hsm]⟩
    cases hsa : smallA L with
    | false =>
      have HSA : Aside0 (monticulelaw18_small.f 100 L = some false) := ⟨by rw [smallA_val, hsa]⟩
      go_enter Try.func10, Try.ntmps10
      go_wp2_with (first | (go_at_call 20; (with_reducible refine (awake18 _).mono ?_); rintro e w' ⟨rfl, hb⟩; have n0_ := Aside0.mk (below_step (by repeat (first | (with_reducible first | exact HC.out | apply below_alloc | apply pw_below_drewN | apply below_drew1) | exact HC.out)) hb); clear HC; have HC := n0_; clear n0_; clear hb) | (go_at_call 13; (with_reducible refine (monticuleref18_Small.calls 100 A0 c0 l _ _ (Kd.C_below HR0.out (by repeat (first | (with_reducible first | exact HC.out | apply below_alloc | apply pw_below_drewN | apply below_drew1) | exact HC.out))) HC0.out HSM.out).mono ?_); rintro e w' ⟨rfl, ⟨nd, rfl⟩⟩) | (go_at_call 28; (with_reducible refine (monticulelaw18_small.calls 100 A1 c1 L _ _ (Kd.C_below HR1.out (by repeat (first | (with_reducible first | exact HC.out | apply below_alloc | apply pw_below_drewN | apply below_drew1) | exact HC.out))) HC1.out HSA.out).mono ?_); rintro e w' ⟨rfl, ⟨nd, rfl⟩⟩))
      go_ret
      exact ⟨rfl, HC.out⟩
    | true =>
      have HSA : Aside0 (monticulelaw18_small.f 100 L = some true) := ⟨by rw [smallA_val, hsa]⟩
      have HS := Aside0.mk (smallB_L hsm)
      have HSB := Aside0.mk (smallB_in hsm)
      have HSAB := Aside0.mk (smallA_in hsa)
      have hl5 : L.length ≤ 40 := HSAB.out.1
      by_cases hro : roomP 30 wd
      · have HO := Aside0.mk hro
        clear hro
        obtain ⟨er, her⟩ : ∃ er, er = ofErr l 30 wd := ⟨_, rfl⟩
        by_cases hz : er = 0
        · have HER := Aside0.mk (her.symm.trans hz)
          clear her hz
          have HI := Aside0.mk (HeapOk.start HER.out HW.out (fun x hx => by have := HSB.out.2 x hx; omega))
          have HWD := Aside0.mk (show wd ≤ 1073741824 from HO.out.2.2.2)
          go_enter Try.func10, Try.ntmps10
          go_wp2_with (first | (go_at_call 20; (with_reducible refine (awake18 _).mono ?_); rintro e w' ⟨rfl, hb⟩; have n0_ := Aside0.mk (below_step (by repeat (first | (with_reducible first | exact HC.out | apply below_alloc | apply pw_below_drewN | apply below_drew1) | exact HC.out)) hb); clear HC; have HC := n0_; clear n0_; clear hb) | (go_at_call 13; (with_reducible refine (monticuleref18_Small.calls 100 A0 c0 l _ _ (Kd.C_below HR0.out (by repeat (first | (with_reducible first | exact HC.out | apply below_alloc | apply pw_below_drewN | apply below_drew1) | exact HC.out))) HC0.out HSM.out).mono ?_); rintro e w' ⟨rfl, ⟨nd, rfl⟩⟩) | (go_at_call 28; (with_reducible refine (monticulelaw18_small.calls 100 A1 c1 L _ _ (Kd.C_below HR1.out (by repeat (first | (with_reducible first | exact HC.out | apply below_alloc | apply pw_below_drewN | apply below_drew1) | exact HC.out))) HC1.out HSA.out).mono ?_); rintro e w' ⟨rfl, ⟨nd, rfl⟩⟩) | (go_at_call 14; (with_reducible refine (of_room A0 c0 l 30 wd _ (Kd.C_below HR0.out (by repeat (first | (with_reducible first | exact HC.out | apply below_alloc | apply pw_below_drewN | apply below_drew1) | exact HC.out))) HC0.out HS.out HW.out HO.out).mono ?_); rintro e wh ⟨hy, hn, hb⟩; obtain ⟨g, rfl, hg⟩ := hy HER.out; have HSZ := Aside0.mk (below_size (by repeat (first | (with_reducible first | exact HC.out | apply below_alloc | apply pw_below_drewN | apply below_drew1) | exact HC.out))); have HH := Aside0.mk hg; have n0_ := Aside0.mk (below_step (by repeat (first | (with_reducible first | exact HC.out | apply below_alloc | apply pw_below_drewN | apply below_drew1) | exact HC.out)) hb); clear HC; have HC := n0_; clear n0_; have HCH := HC; have HCR := Aside0.mk (Below.refl wh.heap.size wh); clear hy hn hb hg) | (go_at_call 21; (with_reducible refine (ref_of A0 c0 l 30 wd _ (Kd.C_below HR0.out (by repeat (first | (with_reducible first | exact HC.out | apply below_alloc | apply pw_below_drewN | apply below_drew1) | exact HC.out))) HC0.out HS.out HW.out HO.out).mono ?_); rintro e w' ⟨hy, hn, hb⟩; obtain ⟨gr, rfl, hm⟩ := hy HER.out; have HT := Aside0.mk (Two.start HSZ.out HH.out HCH.out (by repeat (first | (with_reducible first | exact HCR.out | apply below_alloc | apply pw_below_drewN | apply below_drew1) | exact HCR.out)) hm hb); clear hy hn hb hm HH HSZ HCH HCR))
          clear HC HO HER HS HSB HSM HSA
          go_loopg [11] L.length (fun kq v11 w' => ∃ (x : Int) (m : List S53), v11 = .int .i64 x ∧ 0 ≤ x ∧ x ≤ L.length ∧ Aside0 ((kq : Int) + x = L.length) ∧ Aside0 (Two w w' (fun _ => False) g gr m m wd (usedL m)) ∧ Aside0 (HeapOk m 30 wd))
          case atStart => exact ⟨0, _, rfl, by omega, by omega, ⟨by simp⟩, ⟨HT.out.below (by repeat (first | (with_reducible first | exact Below.refl _ _ | apply below_alloc | apply pw_below_drewN | apply below_drew1) | exact Below.refl _ _))⟩, HI⟩
          case round =>
            clear HT HI
            obtain ⟨x, m, rfl, p0, p1, HK, HT, HI⟩ := hrel
            by_cases hlt : x < (L.length : Int)
            · have c3b0 : decide (x < (L.length : Int)) = true := decide_eq_true hlt
              obtain ⟨ad, A4, c4, e0, hx0, hx1, hx2, hx3, hx4, hl4, hi4⟩ := at_T58 HR1.out x p0 hlt
              cases e0
              have hback := HT.out.back
              replace hx0 := (hback.cell (World.block_lt_of_cell? w _ hx0)).trans hx0
              replace hx1 := (hback.cell (World.block_lt_of_cell? w _ hx1)).trans hx1
              replace hx2 := (hback.cell (World.block_lt_of_cell? w _ hx2)).trans hx2
              replace hx3 := (hback.cell (World.block_lt_of_cell? w _ hx3)).trans hx3
              replace hx4 := (hback.cell (World.block_lt_of_cell? w _ hx4)).trans hx4
              clear hback
              have haw := HW1.out _ (rd58_mem p0 hlt)
              have hbl : (rd_T58 L x).f4.length ≤ 100000 := by have := HSAB.out.2 _ (rd58_mem p0 hlt); omega
              generalize (rd_T58 L x).f0 = kk at hx0 haw
              generalize (rd_T58 L x).f1 = a1 at hx1 haw
              generalize (rd_T58 L x).f2 = a2 at hx2 haw
              generalize (rd_T58 L x).f3 = a3 at hx3 haw
              generalize (rd_T58 L x).f4 = bs at hx4 hl4 hi4 hbl
              have HR4 := Aside0.mk hi4
              have HL4 := Aside0.mk hl4
              have HAW := Aside0.mk haw
              have HBL := Aside0.mk hbl
              clear hi4 hl4 haw hbl
              have p0' : (0 ≤ x) = True := eq_true p0
              have p1' : (x < (L.length : Int)) = True := eq_true hlt
              have HC := Aside0.mk (Below.refl wr.heap.size wr)
              go_upto_region 13 with (first | ((with_reducible refine gate_dst (N := 12) rfl ?_); refine box_event ?hg (N := 12) ?hd (cs := #[.int .i64 0, .int .u64 0, .int .u64 0, .int .i64 0, .slice none 0 0]) (t := 58) ?hr ?_; (case hd => rfl); (case hg => rfl); (case hr => first | (go_simp; done) | (go_simp; rfl)); intro gb hg wbgb hbox hb; have n0_ := Aside0.mk (below_step (by repeat (first | (with_reducible first | exact HC.out | apply below_alloc | apply pw_below_drewN | apply below_drew1) | exact HC.out)) hb); have n1_ := Aside0.mk (hbox); have n2_ := Aside0.mk (by rw [hg]; exact below_size (by repeat (first | (with_reducible first | exact HC.out | apply below_alloc | apply pw_below_drewN | apply below_drew1) | exact HC.out)) : wr.heap.size ≤ gb); clear HC; have HC := n0_; have BKgb := n1_; have GEgb := n2_; clear n0_ n1_ n2_; clear hb hbox hg; have hzgb0 : wbgb.cell? ⟨gb, 0, none⟩ = some (.int .i64 0) := (blk_cell BKgb.out 0).trans rfl; have hfgb0 := blk_frozen BKgb.out 0; have hzgb1 : wbgb.cell? ⟨gb, 1, none⟩ = some (.int .u64 0) := (blk_cell BKgb.out 1).trans rfl; have hfgb1 := blk_frozen BKgb.out 1; have hzgb2 : wbgb.cell? ⟨gb, 2, none⟩ = some (.int .u64 0) := (blk_cell BKgb.out 2).trans rfl; have hfgb2 := blk_frozen BKgb.out 2; have hzgb3 : wbgb.cell? ⟨gb, 3, none⟩ = some (.int .i64 0) := (blk_cell BKgb.out 3).trans rfl; have hfgb3 := blk_frozen BKgb.out 3; have hzgb4 : wbgb.cell? ⟨gb, 4, none⟩ = some (.slice none 0 0) := (blk_cell BKgb.out 4).trans rfl; have hfgb4 := blk_frozen BKgb.out 4))
              have n0_ := Aside0.mk (show (((((wbgb.setCell ⟨gb, 0, none⟩ (.int .i64 kk)).setCell ⟨gb, 1, none⟩ (.int .u64 a1)).setCell ⟨gb, 2, none⟩ (.int .u64 a2)).setCell ⟨gb, 3, none⟩ (.int .i64 a3)).setCell ⟨gb, 4, none⟩ (.slice A4 bs.length c4)).heap[gb]? = some (.cells #[.int .i64 kk, .int .u64 a1, .int .u64 a2, .int .i64 a3, .slice A4 bs.length c4] 58 (0, 0)) from blk_put (cs := #[.int .i64 kk, .int .u64 a1, .int .u64 a2, .int .i64 a3, .slice none 0 0]) (blk_put (cs := #[.int .i64 kk, .int .u64 a1, .int .u64 a2, .int .i64 0, .slice none 0 0]) (blk_put (cs := #[.int .i64 kk, .int .u64 a1, .int .u64 0, .int .i64 0, .slice none 0 0]) (blk_put (cs := #[.int .i64 kk, .int .u64 0, .int .u64 0, .int .i64 0, .slice none 0 0]) (blk_put (cs := #[.int .i64 0, .int .u64 0, .int .u64 0, .int .i64 0, .slice none 0 0]) BKgb.out 0 _ rfl) 1 _ rfl) 2 _ rfl) 3 _ rfl) 4 _ rfl)
              have n1_ := Aside0.mk (show Below wr.heap.size wr (((((wbgb.setCell ⟨gb, 0, none⟩ (.int .i64 kk)).setCell ⟨gb, 1, none⟩ (.int .u64 a1)).setCell ⟨gb, 2, none⟩ (.int .u64 a2)).setCell ⟨gb, 3, none⟩ (.int .i64 a3)).setCell ⟨gb, 4, none⟩ (.slice A4 bs.length c4)) from by repeat (first | (with_reducible first | exact HC.out | refine below_set ?_ GEgb.out) | exact HC.out))
              have n2_ := Aside0.mk (HT.out.mark (X' := (fun k => k = gb)) n1_.out (fun k hk => by subst hk; exact ⟨GEgb.out, blk_lt n0_.out⟩))
              clear HT HC BKgb GEgb hzgb0 hzgb1 hzgb2 hzgb3 hzgb4 hfgb0 hfgb1 hfgb2 hfgb3 hfgb4
              generalize (((((wbgb.setCell ⟨gb, 0, none⟩ (.int .i64 kk)).setCell ⟨gb, 1, none⟩ (.int .u64 a1)).setCell ⟨gb, 2, none⟩ (.int .u64 a2)).setCell ⟨gb, 3, none⟩ (.int .i64 a3)).setCell ⟨gb, 4, none⟩ (.slice A4 bs.length c4)) = W1 at n0_ n2_ ⊢
              have HT := n2_
              have BKgb := n0_
              clear n0_ n1_ n2_ hx0 hx1 hx2 hx3 hx4
              have k0 : W1.cell? ⟨gb, 0, none⟩ = some (.int .i64 kk) := (blk_cell BKgb.out 0).trans rfl
              go_upto_block 2 with (fail)
              go_cut [13, 14, 15, 16, 17, 18, 19, 20, 21, 22] from 63 to 241 (fun v13 v14 v15 v16 v17 v18 v19 v20 v21 v22 w' => ∃ (y z : Int) (m2 : List S53), v13 = .int .u64 y ∧ v14 = .int .u64 y ∧ v15 = .int .i64 z ∧ v16 = .int .i64 z ∧ Aside0 (Two w w' (fun k => k = gb) g gr m2 m2 wd (usedL m2)) ∧ Aside0 (HeapOk m2 30 wd))
              case first =>
                have HSM2 := Aside0.mk (HI.out.smallL (by decide))
                have HL5 := Aside0.mk (show m.length ≤ 5000 from HSM2.out.1)
                by_cases q0 : kk = 0
                · subst q0
                  as_aux_lemma =>
                    have k1 : W1.cell? ⟨gb, 1, none⟩ = some (.int .u64 a1) := (blk_cell BKgb.out 1).trans rfl
                    have k2 : W1.cell? ⟨gb, 2, none⟩ = some (.int .u64 a2) := (blk_cell BKgb.out 2).trans rfl
                    have k3 : W1.cell? ⟨gb, 3, none⟩ = some (.int .i64 a3) := (blk_cell BKgb.out 3).trans rfl
                    have k4 : W1.cell? ⟨gb, 4, none⟩ = some (.slice A4 bs.length c4) := (blk_cell BKgb.out 4).trans rfl
                    obtain ⟨m2, hm2⟩ : ∃ m2, m2 = makeL m 30 wd (usedL m) a1 a3 bs := ⟨_, rfl⟩
                    have HM := Aside0.mk hm2
                    obtain ⟨y, hy⟩ : ∃ y, y = makeW m 30 wd (usedL m) a1 a3 bs := ⟨_, rfl⟩
                    have HY := Aside0.mk hy
                    obtain ⟨z, hz⟩ : ∃ z, z = makeE m 30 wd (usedL m) a1 a3 bs := ⟨_, rfl⟩
                    have HZ := Aside0.mk hz
                    have HIM := Aside0.mk (show HeapOk m2 30 wd by rw [hm2]; exact (HI.out.made HAW.out.2.1).1)
                    clear hm2 hy hz
                    go_wp2_with (fail)
                    go_at_call 30
                    refine (HT.out.actH (fun ok hfr hO => heap_MakeF g w.heap.size ok a1 a3 A4 c4 bs m 30 wd (usedL m) w _ hfr hO HI.out.len (by decide) HAW.out.2.1 HAW.out.2.2.2 HBL.out HR4.out HL4.out HT.out.back (Nat.le_refl _) HI.out.used0 HI.out.used HWD.out)).mono ?_
                    rintro e w3 ⟨rfl, hT, hK⟩
                    rw [(HI.out.made HAW.out.2.1).2, ← HM.out] at hT
                    rw [← HY.out, ← HZ.out]
                    have n0_ := Aside0.mk hT
                    have n1_ := Aside0.mk (hK.cell rfl BKgb.out)
                    clear HT BKgb hT hK k1 k2 k3 k4
                    have HT := n0_
                    have BKgb := n1_
                    clear n0_ n1_
                    have k1 : w3.cell? ⟨gb, 1, none⟩ = some (.int .u64 a1) := (blk_cell BKgb.out 1).trans rfl
                    have k2 : w3.cell? ⟨gb, 2, none⟩ = some (.int .u64 a2) := (blk_cell BKgb.out 2).trans rfl
                    have k3 : w3.cell? ⟨gb, 3, none⟩ = some (.int .i64 a3) := (blk_cell BKgb.out 3).trans rfl
                    have k4 : w3.cell? ⟨gb, 4, none⟩ = some (.slice A4 bs.length c4) := (blk_cell BKgb.out 4).trans rfl
                    go_wp2_with (fail)
                    go_at_call 42
                    refine (HT.out.actR (fun ok hfr hO => ref_Make gr w.heap.size ok a1 a3 A4 c4 bs m 30 wd w _ hfr hO HI.out.len (by decide) HSM2.out HAW.out.2.1 HAW.out.2.2.2 HBL.out HR4.out HL4.out HT.out.back)).mono ?_
                    rintro e w4 ⟨rfl, hT, hK⟩
                    rw [← HM.out] at hT
                    rw [← HY.out, ← HZ.out]
                    have n0_ := Aside0.mk hT
                    have n1_ := Aside0.mk (hK.cell rfl BKgb.out)
                    clear HT BKgb hT hK k1 k2 k3 k4
                    have HT := n0_
                    have BKgb := n1_
                    clear n0_ n1_
                    have k1 : w4.cell? ⟨gb, 1, none⟩ = some (.int .u64 a1) := (blk_cell BKgb.out 1).trans rfl
                    have k2 : w4.cell? ⟨gb, 2, none⟩ = some (.int .u64 a2) := (blk_cell BKgb.out 2).trans rfl
                    have k3 : w4.cell? ⟨gb, 3, none⟩ = some (.int .i64 a3) := (blk_cell BKgb.out 3).trans rfl
                    have k4 : w4.cell? ⟨gb, 4, none⟩ = some (.slice A4 bs.length c4) := (blk_cell BKgb.out 4).trans rfl
                    go_wp2_with (fail)
                    go_meet
                    case rel => exact ⟨y, z, m2, rfl, rfl, rfl, rfl, HT, HIM⟩
                · by_cases q1 : kk = 1
                  · subst q1
                    as_aux_lemma =>
                      have k1 : W1.cell? ⟨gb, 1, none⟩ = some (.int .u64 a1) := (blk_cell BKgb.out 1).trans rfl
                      have k2 : W1.cell? ⟨gb, 2, none⟩ = some (.int .u64 a2) := (blk_cell BKgb.out 2).trans rfl
                      have k3 : W1.cell? ⟨gb, 3, none⟩ = some (.int .i64 a3) := (blk_cell BKgb.out 3).trans rfl
                      have k4 : W1.cell? ⟨gb, 4, none⟩ = some (.slice A4 bs.length c4) := (blk_cell BKgb.out 4).trans rfl
                      obtain ⟨m2, hm2⟩ : ∃ m2, m2 = setL m a1 a3 a2 := ⟨_, rfl⟩
                      have HM := Aside0.mk hm2
                      obtain ⟨z, hz⟩ : ∃ z, z = setErr m a1 a3 a2 := ⟨_, rfl⟩
                      have HZ := Aside0.mk hz
                      have HIM := Aside0.mk (show HeapOk m2 30 wd by rw [hm2]; exact (HI.out.setted HAW.out.2.1 HAW.out.2.2.1).1)
                      clear hm2 hz
                      go_wp2_with (fail)
                      refine start_ (n := 18) (S := fun w' => w'.cell? ⟨gb, 1, none⟩ = some (.int .u64 a1) ∧ w'.cell? ⟨gb, 2, none⟩ = some (.int .u64 a2) ∧ w'.cell? ⟨gb, 3, none⟩ = some (.int .i64 a3)) (ds := []) #[false, false, false, false, false, false, false, false, false, false, false, false, false, false, false, false, false, false] (by kernel_rfl) rfl rfl ⟨(blk_cell (blk_drew BKgb.out) 1).trans rfl, (blk_cell (blk_drew BKgb.out) 2).trans rfl, (blk_cell (blk_drew BKgb.out) 3).trans rfl⟩ (fun hHeld => ?_); refine with_tabW ha.tab28 ha.bits28 (fun HT_ HW_ => ?_)
                      clear k0 k1 k2 k3 k4
                      have n0_ := Aside0.mk (HT.out.below (below_drew1 (Below.refl _ _)))
                      have n1_ := Aside0.mk (blk_drew BKgb.out)
                      generalize hw_ : W1.drew = W2 at n0_ n1_ hHeld ⊢
                      clear hw_ HT BKgb
                      have HT := n0_
                      have BKgb := n1_
                      clear n0_ n1_
                      refine pure_ (i := 0) (N := some 164) (v := ?_) (a' := ?_) #[true, false, false, false, false, false, false, false, false, false, false, false, false, false, false, false, false, false] rfl rfl (any_of HT_.out (by kernel_rfl)) (fun _ _ _ h => h) (Or.inl ⟨by rfl, ?_⟩) ?_ ?_
                      rotate_left
                      · intro w'
                        go_simp
                        with_reducible rfl
                      rotate_left
                      · simp only [Act.put, List.setIfInBounds_toArray, List.set_cons_zero, List.set_cons_succ, i64_w, i32_w]
                        rfl
                      refine pure_ (i := 1) (N := some 165) (v := ?_) (a' := ?_) #[true, true, false, false, false, false, false, false, false, false, false, false, false, false, false, false, false, false] rfl rfl (any_of HT_.out (by kernel_rfl)) (fun _ _ _ h => h) (Or.inl ⟨by rfl, ?_⟩) ?_ ?_
                      rotate_left
                      · intro w'
                        go_simp
                        with_reducible rfl
                      rotate_left
                      · simp only [Act.put, List.setIfInBounds_toArray, List.set_cons_zero, List.set_cons_succ, i64_w, i32_w]
                        rfl
                      refine take_ (i := 2) (N := some 166) (v := ?_) (a' := ?_) #[true, true, true, false, false, false, false, false, false, false, false, false, false, false, false, false, false, false] rfl rfl (take_ofW HT_.out HW_.out (by kernel_rfl)) (fun _ _ _ h => h) (Or.inl ⟨by rfl, ?_⟩) hHeld ?_ ?_
                      rotate_left
                      · rintro w' ⟨s0, s1, s2⟩
                        go_simp
                        with_reducible rfl
                      rotate_left
                      · simp only [Act.put, List.setIfInBounds_toArray, List.set_cons_zero, List.set_cons_succ, i64_w, i32_w]
                        rfl
                      refine pure_ (i := 3) (N := some 167) (v := ?_) (a' := ?_) #[true, true, true, true, false, false, false, false, false, false, false, false, false, false, false, false, false, false] rfl rfl (any_of HT_.out (by kernel_rfl)) (fun _ _ _ h => h) (Or.inl ⟨by rfl, ?_⟩) ?_ ?_
                      rotate_left
                      · intro w'
                        go_simp
                        with_reducible rfl
                      rotate_left
                      · simp only [Act.put, List.setIfInBounds_toArray, List.set_cons_zero, List.set_cons_succ, i64_w, i32_w]
                        rfl
                      refine take_ (i := 4) (N := some 168) (v := ?_) (a' := ?_) #[true, true, true, true, true, false, false, false, false, false, false, false, false, false, false, false, false, false] rfl rfl (take_ofW HT_.out HW_.out (by kernel_rfl)) (fun _ _ _ h => h) (Or.inl ⟨by rfl, ?_⟩) hHeld ?_ ?_
                      rotate_left
                      · rintro w' ⟨s0, s1, s2⟩
                        go_simp
                        with_reducible rfl
                      rotate_left
                      · simp only [Act.put, List.setIfInBounds_toArray, List.set_cons_zero, List.set_cons_succ, i64_w, i32_w]
                        rfl
                      refine pure_ (i := 5) (N := some 169) (v := ?_) (a' := ?_) #[true, true, true, true, true, true, false, false, false, false, false, false, false, false, false, false, false, false] rfl rfl (any_of HT_.out (by kernel_rfl)) (fun _ _ _ h => h) (Or.inl ⟨by rfl, ?_⟩) ?_ ?_
                      rotate_left
                      · intro w'
                        go_simp
                        with_reducible rfl
                      rotate_left
                      · simp only [Act.put, List.setIfInBounds_toArray, List.set_cons_zero, List.set_cons_succ, i64_w, i32_w]
                        rfl
                      refine take_ (i := 6) (N := some 170) (v := ?_) (a' := ?_) #[true, true, true, true, true, true, true, false, false, false, false, false, false, false, false, false, false, false] rfl rfl (take_ofW HT_.out HW_.out (by kernel_rfl)) (fun _ _ _ h => h) (Or.inl ⟨by rfl, ?_⟩) hHeld ?_ ?_
                      rotate_left
                      · rintro w' ⟨s0, s1, s2⟩
                        go_simp
                        with_reducible rfl
                      rotate_left
                      · simp only [Act.put, List.setIfInBounds_toArray, List.set_cons_zero, List.set_cons_succ, i64_w, i32_w]
                        rfl
                      refine pure_ (i := 8) (N := some 172) (v := ?_) (a' := ?_) #[true, true, true, true, true, true, true, false, true, false, false, false, false, false, false, false, false, false] rfl rfl (any_of HT_.out (by kernel_rfl)) (fun _ _ _ h => h) (Or.inl ⟨by rfl, ?_⟩) ?_ ?_
                      rotate_left
                      · intro w'
                        go_simp
                        with_reducible rfl
                      rotate_left
                      · simp only [Act.put, List.setIfInBounds_toArray, List.set_cons_zero, List.set_cons_succ, i64_w, i32_w]
                        rfl
                      refine pure_ (i := 9) (N := some 173) (v := ?_) (a' := ?_) #[true, true, true, true, true, true, true, false, true, true, false, false, false, false, false, false, false, false] rfl rfl (any_of HT_.out (by kernel_rfl)) (fun _ _ _ h => h) (Or.inl ⟨by rfl, ?_⟩) ?_ ?_
                      rotate_left
                      · intro w'
                        go_simp
                        with_reducible rfl
                      rotate_left
                      · simp only [Act.put, List.setIfInBounds_toArray, List.set_cons_zero, List.set_cons_succ, i64_w, i32_w]
                        rfl
                      refine take_ (i := 10) (N := some 174) (v := ?_) (a' := ?_) #[true, true, true, true, true, true, true, false, true, true, true, false, false, false, false, false, false, false] rfl rfl (take_ofW HT_.out HW_.out (by kernel_rfl)) (fun _ _ _ h => h) (Or.inl ⟨by rfl, ?_⟩) hHeld ?_ ?_
                      rotate_left
                      · rintro w' ⟨s0, s1, s2⟩
                        go_simp
                        with_reducible rfl
                      rotate_left
                      · simp only [Act.put, List.setIfInBounds_toArray, List.set_cons_zero, List.set_cons_succ, i64_w, i32_w]
                        rfl
                      refine pure_ (i := 11) (N := some 175) (v := ?_) (a' := ?_) #[true, true, true, true, true, true, true, false, true, true, true, true, false, false, false, false, false, false] rfl rfl (any_of HT_.out (by kernel_rfl)) (fun _ _ _ h => h) (Or.inl ⟨by rfl, ?_⟩) ?_ ?_
                      rotate_left
                      · intro w'
                        go_simp
                        with_reducible rfl
                      rotate_left
                      · simp only [Act.put, List.setIfInBounds_toArray, List.set_cons_zero, List.set_cons_succ, i64_w, i32_w]
                        rfl
                      refine take_ (i := 12) (N := some 176) (v := ?_) (a' := ?_) #[true, true, true, true, true, true, true, false, true, true, true, true, true, false, false, false, false, false] rfl rfl (take_ofW HT_.out HW_.out (by kernel_rfl)) (fun _ _ _ h => h) (Or.inl ⟨by rfl, ?_⟩) hHeld ?_ ?_
                      rotate_left
                      · rintro w' ⟨s0, s1, s2⟩
                        go_simp
                        with_reducible rfl
                      rotate_left
                      · simp only [Act.put, List.setIfInBounds_toArray, List.set_cons_zero, List.set_cons_succ, i64_w, i32_w]
                        rfl
                      refine pure_ (i := 13) (N := some 177) (v := ?_) (a' := ?_) #[true, true, true, true, true, true, true, false, true, true, true, true, true, true, false, false, false, false] rfl rfl (any_of HT_.out (by kernel_rfl)) (fun _ _ _ h => h) (Or.inl ⟨by rfl, ?_⟩) ?_ ?_
                      rotate_left
                      · intro w'
                        go_simp
                        with_reducible rfl
                      rotate_left
                      · simp only [Act.put, List.setIfInBounds_toArray, List.set_cons_zero, List.set_cons_succ, i64_w, i32_w]
                        rfl
                      refine take_ (i := 14) (N := some 178) (v := ?_) (a' := ?_) #[true, true, true, true, true, true, true, false, true, true, true, true, true, true, true, false, false, false] rfl rfl (take_ofW HT_.out HW_.out (by kernel_rfl)) (fun _ _ _ h => h) (Or.inl ⟨by rfl, ?_⟩) hHeld ?_ ?_
                      rotate_left
                      · rintro w' ⟨s0, s1, s2⟩
                        go_simp
                        with_reducible rfl
                      rotate_left
                      · simp only [Act.put, List.setIfInBounds_toArray, List.set_cons_zero, List.set_cons_succ, i64_w, i32_w]
                        rfl
                      refine one_ (i := 7) (N := some 171) #[true, true, true, true, true, true, true, true, true, true, true, true, true, true, true, false, false, false] rfl rfl (one_of HT_.out (by kernel_rfl)) (by decide) (fun K hK => ?_)
                      refine goes_ Try.func31 (by kernel_rfl) rfl #[.pointer (some ⟨g, 0, none⟩), .int .u64 a1, .int .i64 a3, .int .u64 a2] (by rfl) rfl rfl (by (try simp only [List.map_toArray, List.map_cons, List.map_nil]); first | done | rfl | (simp only [List.length_drop, List.length_take]; rfl)) ?_
                      with_reducible refine (HT.out.actH (fun ok hfr hO => heap_SetF g w.heap.size ok a1 a3 a2 m 30 wd (usedL m) _ hO HL5.out HAW.out.2.1 HAW.out.2.2.1)).mono ?_
                      rintro e w3 ⟨rfl, hT, hK⟩
                      rw [← (HI.out.setted HAW.out.2.1 HAW.out.2.2.1).2, ← HM.out] at hT
                      rw [← HZ.out]
                      have n0_ := Aside0.mk hT
                      have n1_ := Aside0.mk (hK.cell rfl BKgb.out)
                      clear HT BKgb hT hK
                      have HT := n0_
                      have BKgb := n1_
                      clear n0_ n1_
                      refine ⟨_, rfl, ?_⟩
                      refine hK.out _ _ ⟨(blk_cell BKgb.out 1).trans rfl, (blk_cell BKgb.out 2).trans rfl, (blk_cell BKgb.out 3).trans rfl⟩ (fun hHeld => ?_)
                      clear hK K
                      refine norm_ (a' := ?_) ?_ ?_
                      rotate_left
                      · show Act.put _ (some 171) _ = _
                        simp only [Act.put, List.setIfInBounds_toArray, List.set_cons_zero, List.set_cons_succ, i64_w, i32_w]
                        rfl
                      refine one_ (i := 15) (N := some 179) #[true, true, true, true, true, true, true, true, true, true, true, true, true, true, true, true, false, false] rfl rfl (one_of HT_.out (by kernel_rfl)) (by decide) (fun K hK => ?_)
                      refine goes_ Try.func43 (by kernel_rfl) rfl #[.pointer (some ⟨gr, 0, none⟩), .int .u64 a1, .int .i64 a3, .int .u64 a2] (by rfl) rfl rfl (by (try simp only [List.map_toArray, List.map_cons, List.map_nil]); first | done | rfl | (simp only [List.length_drop, List.length_take]; rfl)) ?_
                      with_reducible refine (HT.out.actR (fun ok hfr hO => ref_Set gr w.heap.size ok a1 a3 a2 m 30 wd _ hO HL5.out HAW.out.2.1 HAW.out.2.2.1)).mono ?_
                      rintro e w4 ⟨rfl, hT, hK⟩
                      rw [← HM.out] at hT
                      rw [← HZ.out]
                      have n0_ := Aside0.mk hT
                      have n1_ := Aside0.mk (hK.cell rfl BKgb.out)
                      clear HT BKgb hT hK
                      have HT := n0_
                      have BKgb := n1_
                      clear n0_ n1_
                      refine ⟨_, rfl, ?_⟩
                      refine hK.out _ _ ⟨(blk_cell BKgb.out 1).trans rfl, (blk_cell BKgb.out 2).trans rfl, (blk_cell BKgb.out 3).trans rfl⟩ (fun hHeld => ?_)
                      clear hK K
                      refine norm_ (a' := ?_) ?_ ?_
                      rotate_left
                      · show Act.put _ (some 179) _ = _
                        simp only [Act.put, List.setIfInBounds_toArray, List.set_cons_zero, List.set_cons_succ, i64_w, i32_w]
                        rfl
                      refine pure_ (i := 16) (N := some 15) (v := ?_) (a' := ?_) #[true, true, true, true, true, true, true, true, true, true, true, true, true, true, true, true, true, false] rfl rfl (any_of HT_.out (by kernel_rfl)) (fun _ _ _ h => h) (Or.inl ⟨by rfl, ?_⟩) ?_ ?_
                      rotate_left
                      · intro w'
                        go_simp
                        with_reducible rfl
                      rotate_left
                      · simp only [Act.put, List.setIfInBounds_toArray, List.set_cons_zero, List.set_cons_succ, i64_w, i32_w]
                        rfl
                      refine pure_ (i := 17) (N := some 16) (v := ?_) (a' := ?_) #[true, true, true, true, true, true, true, true, true, true, true, true, true, true, true, true, true, true] rfl rfl (any_of HT_.out (by kernel_rfl)) (fun _ _ _ h => h) (Or.inl ⟨by rfl, ?_⟩) ?_ ?_
                      rotate_left
                      · intro w'
                        go_simp
                        with_reducible rfl
                      rotate_left
                      · simp only [Act.put, List.setIfInBounds_toArray, List.set_cons_zero, List.set_cons_succ, i64_w, i32_w]
                        rfl
                      refine done_ (done_of HT_.out (by kernel_rfl)) ?_
                      go_wp2_with (fail)
                      go_meet
                      case rel => exact ⟨0, z, m2, rfl, rfl, rfl, rfl, HT, HIM⟩
                  · by_cases q2 : kk = 2
                    · subst q2
                      as_aux_lemma =>
                        have k1 : W1.cell? ⟨gb, 1, none⟩ = some (.int .u64 a1) := (blk_cell BKgb.out 1).trans rfl
                        have k2 : W1.cell? ⟨gb, 2, none⟩ = some (.int .u64 a2) := (blk_cell BKgb.out 2).trans rfl
                        have k3 : W1.cell? ⟨gb, 3, none⟩ = some (.int .i64 a3) := (blk_cell BKgb.out 3).trans rfl
                        have k4 : W1.cell? ⟨gb, 4, none⟩ = some (.slice A4 bs.length c4) := (blk_cell BKgb.out 4).trans rfl
                        obtain ⟨m2, hm2⟩ : ∃ m2, m2 = setCL m a1 a2 := ⟨_, rfl⟩
                        have HM := Aside0.mk hm2
                        obtain ⟨z, hz⟩ : ∃ z, z = setCErr m a1 a2 := ⟨_, rfl⟩
                        have HZ := Aside0.mk hz
                        have HIM := Aside0.mk (show HeapOk m2 30 wd by rw [hm2]; exact (HI.out.settedC HAW.out.2.1 HAW.out.2.2.1).1)
                        clear hm2 hz
                        go_wp2_with (fail)
                        refine start_ (n := 14) (S := fun w' => w'.cell? ⟨gb, 1, none⟩ = some (.int .u64 a1) ∧ w'.cell? ⟨gb, 2, none⟩ = some (.int .u64 a2)) (ds := []) #[false, false, false, false, false, false, false, false, false, false, false, false, false, false] (by kernel_rfl) rfl rfl ⟨(blk_cell (blk_drew BKgb.out) 1).trans rfl, (blk_cell (blk_drew BKgb.out) 2).trans rfl⟩ (fun hHeld => ?_); refine with_tabW ha.tab30 ha.bits30 (fun HT_ HW_ => ?_)
                        clear k0 k1 k2 k3 k4
                        have n0_ := Aside0.mk (HT.out.below (below_drew1 (Below.refl _ _)))
                        have n1_ := Aside0.mk (blk_drew BKgb.out)
                        generalize hw_ : W1.drew = W2 at n0_ n1_ hHeld ⊢
                        clear hw_ HT BKgb
                        have HT := n0_
                        have BKgb := n1_
                        clear n0_ n1_
                        refine pure_ (i := 0) (N := some 182) (v := ?_) (a' := ?_) #[true, false, false, false, false, false, false, false, false, false, false, false, false, false] rfl rfl (any_of HT_.out (by kernel_rfl)) (fun _ _ _ h => h) (Or.inl ⟨by rfl, ?_⟩) ?_ ?_
                        rotate_left
                        · intro w'
                          go_simp
                          with_reducible rfl
                        rotate_left
                        · simp only [Act.put, List.setIfInBounds_toArray, List.set_cons_zero, List.set_cons_succ, i64_w, i32_w]
                          rfl
                        refine pure_ (i := 1) (N := some 183) (v := ?_) (a' := ?_) #[true, true, false, false, false, false, false, false, false, false, false, false, false, false] rfl rfl (any_of HT_.out (by kernel_rfl)) (fun _ _ _ h => h) (Or.inl ⟨by rfl, ?_⟩) ?_ ?_
                        rotate_left
                        · intro w'
                          go_simp
                          with_reducible rfl
                        rotate_left
                        · simp only [Act.put, List.setIfInBounds_toArray, List.set_cons_zero, List.set_cons_succ, i64_w, i32_w]
                          rfl
                        refine take_ (i := 2) (N := some 184) (v := ?_) (a' := ?_) #[true, true, true, false, false, false, false, false, false, false, false, false, false, false] rfl rfl (take_ofW HT_.out HW_.out (by kernel_rfl)) (fun _ _ _ h => h) (Or.inl ⟨by rfl, ?_⟩) hHeld ?_ ?_
                        rotate_left
                        · rintro w' ⟨s0, s1⟩
                          go_simp
                          with_reducible rfl
                        rotate_left
                        · simp only [Act.put, List.setIfInBounds_toArray, List.set_cons_zero, List.set_cons_succ, i64_w, i32_w]
                          rfl
                        refine pure_ (i := 3) (N := some 185) (v := ?_) (a' := ?_) #[true, true, true, true, false, false, false, false, false, false, false, false, false, false] rfl rfl (any_of HT_.out (by kernel_rfl)) (fun _ _ _ h => h) (Or.inl ⟨by rfl, ?_⟩) ?_ ?_
                        rotate_left
                        · intro w'
                          go_simp
                          with_reducible rfl
                        rotate_left
                        · simp only [Act.put, List.setIfInBounds_toArray, List.set_cons_zero, List.set_cons_succ, i64_w, i32_w]
                          rfl
                        refine take_ (i := 4) (N := some 186) (v := ?_) (a' := ?_) #[true, true, true, true, true, false, false, false, false, false, false, false, false, false] rfl rfl (take_ofW HT_.out HW_.out (by kernel_rfl)) (fun _ _ _ h => h) (Or.inl ⟨by rfl, ?_⟩) hHeld ?_ ?_
                        rotate_left
                        · rintro w' ⟨s0, s1⟩
                          go_simp
                          with_reducible rfl
                        rotate_left
                        · simp only [Act.put, List.setIfInBounds_toArray, List.set_cons_zero, List.set_cons_succ, i64_w, i32_w]
                          rfl
                        refine pure_ (i := 6) (N := some 188) (v := ?_) (a' := ?_) #[true, true, true, true, true, false, true, false, false, false, false, false, false, false] rfl rfl (any_of HT_.out (by kernel_rfl)) (fun _ _ _ h => h) (Or.inl ⟨by rfl, ?_⟩) ?_ ?_
                        rotate_left
                        · intro w'
                          go_simp
                          with_reducible rfl
                        rotate_left
                        · simp only [Act.put, List.setIfInBounds_toArray, List.set_cons_zero, List.set_cons_succ, i64_w, i32_w]
                          rfl
                        refine pure_ (i := 7) (N := some 189) (v := ?_) (a' := ?_) #[true, true, true, true, true, false, true, true, false, false, false, false, false, false] rfl rfl (any_of HT_.out (by kernel_rfl)) (fun _ _ _ h => h) (Or.inl ⟨by rfl, ?_⟩) ?_ ?_
                        rotate_left
                        · intro w'
                          go_simp
                          with_reducible rfl
                        rotate_left
                        · simp only [Act.put, List.setIfInBounds_toArray, List.set_cons_zero, List.set_cons_succ, i64_w, i32_w]
                          rfl
                        refine take_ (i := 8) (N := some 190) (v := ?_) (a' := ?_) #[true, true, true, true, true, false, true, true, true, false, false, false, false, false] rfl rfl (take_ofW HT_.out HW_.out (by kernel_rfl)) (fun _ _ _ h => h) (Or.inl ⟨by rfl, ?_⟩) hHeld ?_ ?_
                        rotate_left
                        · rintro w' ⟨s0, s1⟩
                          go_simp
                          with_reducible rfl
                        rotate_left
                        · simp only [Act.put, List.setIfInBounds_toArray, List.set_cons_zero, List.set_cons_succ, i64_w, i32_w]
                          rfl
                        refine pure_ (i := 9) (N := some 191) (v := ?_) (a' := ?_) #[true, true, true, true, true, false, true, true, true, true, false, false, false, false] rfl rfl (any_of HT_.out (by kernel_rfl)) (fun _ _ _ h => h) (Or.inl ⟨by rfl, ?_⟩) ?_ ?_
                        rotate_left
                        · intro w'
                          go_simp
                          with_reducible rfl
                        rotate_left
                        · simp only [Act.put, List.setIfInBounds_toArray, List.set_cons_zero, List.set_cons_succ, i64_w, i32_w]
                          rfl
                        refine take_ (i := 10) (N := some 192) (v := ?_) (a' := ?_) #[true, true, true, true, true, false, true, true, true, true, true, false, false, false] rfl rfl (take_ofW HT_.out HW_.out (by kernel_rfl)) (fun _ _ _ h => h) (Or.inl ⟨by rfl, ?_⟩) hHeld ?_ ?_
                        rotate_left
                        · rintro w' ⟨s0, s1⟩
                          go_simp
                          with_reducible rfl
                        rotate_left
                        · simp only [Act.put, List.setIfInBounds_toArray, List.set_cons_zero, List.set_cons_succ, i64_w, i32_w]
                          rfl
                        refine one_ (i := 5) (N := some 187) #[true, true, true, true, true, true, true, true, true, true, true, false, false, false] rfl rfl (one_of HT_.out (by kernel_rfl)) (by decide) (fun K hK => ?_)
                        refine goes_ Try.func32 (by kernel_rfl) rfl #[.pointer (some ⟨g, 0, none⟩), .int .u64 a1, .int .u64 a2] (by rfl) rfl rfl (by (try simp only [List.map_toArray, List.map_cons, List.map_nil]); first | done | rfl | (simp only [List.length_drop, List.length_take]; rfl)) ?_
                        with_reducible refine (HT.out.actH (fun ok hfr hO => heap_SetClassF g w.heap.size ok a1 a2 m 30 wd (usedL m) _ hO HL5.out HAW.out.2.1 HAW.out.2.2.1)).mono ?_
                        rintro e w3 ⟨rfl, hT, hK⟩
                        rw [← (HI.out.settedC HAW.out.2.1 HAW.out.2.2.1).2, ← HM.out] at hT
                        rw [← HZ.out]
                        have n0_ := Aside0.mk hT
                        have n1_ := Aside0.mk (hK.cell rfl BKgb.out)
                        clear HT BKgb hT hK
                        have HT := n0_
                        have BKgb := n1_
                        clear n0_ n1_
                        refine ⟨_, rfl, ?_⟩
                        refine hK.out _ _ ⟨(blk_cell BKgb.out 1).trans rfl, (blk_cell BKgb.out 2).trans rfl⟩ (fun hHeld => ?_)
                        clear hK K
                        refine norm_ (a' := ?_) ?_ ?_
                        rotate_left
                        · show Act.put _ (some 187) _ = _
                          simp only [Act.put, List.setIfInBounds_toArray, List.set_cons_zero, List.set_cons_succ, i64_w, i32_w]
                          rfl
                        refine one_ (i := 11) (N := some 193) #[true, true, true, true, true, true, true, true, true, true, true, true, false, false] rfl rfl (one_of HT_.out (by kernel_rfl)) (by decide) (fun K hK => ?_)
                        refine goes_ Try.func44 (by kernel_rfl) rfl #[.pointer (some ⟨gr, 0, none⟩), .int .u64 a1, .int .u64 a2] (by rfl) rfl rfl (by (try simp only [List.map_toArray, List.map_cons, List.map_nil]); first | done | rfl | (simp only [List.length_drop, List.length_take]; rfl)) ?_
                        with_reducible refine (HT.out.actR (fun ok hfr hO => ref_SetClass gr w.heap.size ok a1 a2 m 30 wd _ hO HL5.out HAW.out.2.1 HAW.out.2.2.1)).mono ?_
                        rintro e w4 ⟨rfl, hT, hK⟩
                        rw [← HM.out] at hT
                        rw [← HZ.out]
                        have n0_ := Aside0.mk hT
                        have n1_ := Aside0.mk (hK.cell rfl BKgb.out)
                        clear HT BKgb hT hK
                        have HT := n0_
                        have BKgb := n1_
                        clear n0_ n1_
                        refine ⟨_, rfl, ?_⟩
                        refine hK.out _ _ ⟨(blk_cell BKgb.out 1).trans rfl, (blk_cell BKgb.out 2).trans rfl⟩ (fun hHeld => ?_)
                        clear hK K
                        refine norm_ (a' := ?_) ?_ ?_
                        rotate_left
                        · show Act.put _ (some 193) _ = _
                          simp only [Act.put, List.setIfInBounds_toArray, List.set_cons_zero, List.set_cons_succ, i64_w, i32_w]
                          rfl
                        refine pure_ (i := 12) (N := some 15) (v := ?_) (a' := ?_) #[true, true, true, true, true, true, true, true, true, true, true, true, true, false] rfl rfl (any_of HT_.out (by kernel_rfl)) (fun _ _ _ h => h) (Or.inl ⟨by rfl, ?_⟩) ?_ ?_
                        rotate_left
                        · intro w'
                          go_simp
                          with_reducible rfl
                        rotate_left
                        · simp only [Act.put, List.setIfInBounds_toArray, List.set_cons_zero, List.set_cons_succ, i64_w, i32_w]
                          rfl
                        refine pure_ (i := 13) (N := some 16) (v := ?_) (a' := ?_) #[true, true, true, true, true, true, true, true, true, true, true, true, true, true] rfl rfl (any_of HT_.out (by kernel_rfl)) (fun _ _ _ h => h) (Or.inl ⟨by rfl, ?_⟩) ?_ ?_
                        rotate_left
                        · intro w'
                          go_simp
                          with_reducible rfl
                        rotate_left
                        · simp only [Act.put, List.setIfInBounds_toArray, List.set_cons_zero, List.set_cons_succ, i64_w, i32_w]
                          rfl
                        refine done_ (done_of HT_.out (by kernel_rfl)) ?_
                        go_wp2_with (fail)
                        go_meet
                        case rel => exact ⟨0, z, m2, rfl, rfl, rfl, rfl, HT, HIM⟩
                    · by_cases q3 : kk = 3
                      · subst q3
                        as_aux_lemma =>
                          have k1 : W1.cell? ⟨gb, 1, none⟩ = some (.int .u64 a1) := (blk_cell BKgb.out 1).trans rfl
                          have k2 : W1.cell? ⟨gb, 2, none⟩ = some (.int .u64 a2) := (blk_cell BKgb.out 2).trans rfl
                          have k3 : W1.cell? ⟨gb, 3, none⟩ = some (.int .i64 a3) := (blk_cell BKgb.out 3).trans rfl
                          have k4 : W1.cell? ⟨gb, 4, none⟩ = some (.slice A4 bs.length c4) := (blk_cell BKgb.out 4).trans rfl
                          obtain ⟨z, hz⟩ : ∃ z, z = slotErr m a1 a3 := ⟨_, rfl⟩
                          have HZ := Aside0.mk hz
                          obtain ⟨y, hy⟩ : ∃ y, y = (if z = 0 then rd (objectL m a1).f1 a3 else 0) := ⟨_, rfl⟩
                          have HY := Aside0.mk hy
                          clear hy hz
                          go_wp2_with (fail)
                          go_at_call 45
                          refine (heap_Get g a1 a3 m 30 wd (usedL m) _ HT.out.heap HL5.out HAW.out.2.1).mono ?_
                          rintro e w3 ⟨rfl, hd⟩
                          rw [← HZ.out, ← HY.out]
                          have n0_ := Aside0.mk (HT.out.below hd.below)
                          have n1_ := Aside0.mk (blk_below BKgb.out hd.below)
                          clear HT BKgb k1 k2 k3 k4
                          have HT := n0_
                          have BKgb := n1_
                          clear n0_ n1_
                          have k1 : w3.cell? ⟨gb, 1, none⟩ = some (.int .u64 a1) := (blk_cell BKgb.out 1).trans rfl
                          have k2 : w3.cell? ⟨gb, 2, none⟩ = some (.int .u64 a2) := (blk_cell BKgb.out 2).trans rfl
                          have k3 : w3.cell? ⟨gb, 3, none⟩ = some (.int .i64 a3) := (blk_cell BKgb.out 3).trans rfl
                          have k4 : w3.cell? ⟨gb, 4, none⟩ = some (.slice A4 bs.length c4) := (blk_cell BKgb.out 4).trans rfl
                          clear hd
                          go_wp2_with (fail)
                          go_at_call 46
                          refine (ref_Get gr a1 a3 m 30 wd _ HT.out.ref HL5.out HAW.out.2.1).mono ?_
                          rintro e w4 ⟨rfl, hb⟩
                          rw [← HZ.out, ← HY.out]
                          have n0_ := Aside0.mk (HT.out.below hb)
                          have n1_ := Aside0.mk (blk_below BKgb.out hb)
                          clear HT BKgb k1 k2 k3 k4
                          have HT := n0_
                          have BKgb := n1_
                          clear n0_ n1_
                          have k1 : w4.cell? ⟨gb, 1, none⟩ = some (.int .u64 a1) := (blk_cell BKgb.out 1).trans rfl
                          have k2 : w4.cell? ⟨gb, 2, none⟩ = some (.int .u64 a2) := (blk_cell BKgb.out 2).trans rfl
                          have k3 : w4.cell? ⟨gb, 3, none⟩ = some (.int .i64 a3) := (blk_cell BKgb.out 3).trans rfl
                          have k4 : w4.cell? ⟨gb, 4, none⟩ = some (.slice A4 bs.length c4) := (blk_cell BKgb.out 4).trans rfl
                          clear hb
                          go_wp2_with (fail)
                          go_meet
                          case rel => exact ⟨y, z, m, rfl, rfl, rfl, rfl, HT, HI⟩
                      · have z0 : (kk == 0) = false := by simpa using q0
                        have z1 : (kk == 1) = false := by simpa using q1
                        have z2 : (kk == 2) = false := by simpa using q2
                        have z3 : (kk == 3) = false := by simpa using q3
                        cases ht : thereP m.length a1 with
                        | true =>
                          as_aux_lemma =>
                            have HTP := Aside0.mk ht
                            obtain ⟨F0, hF0⟩ : ∃ F0, F0 = (objectL m a1).f0 := ⟨_, rfl⟩
                            obtain ⟨F1, hF1⟩ : ∃ F1, F1 = (objectL m a1).f1 := ⟨_, rfl⟩
                            obtain ⟨F2, hF2⟩ : ∃ F2, F2 = (objectL m a1).f2 := ⟨_, rfl⟩
                            have HF0 := Aside0.mk hF0
                            have HF1 := Aside0.mk hF1
                            have HF2 := Aside0.mk hF2
                            have hth := there18 HAW.out.2.1 m.length HL5.out
                            rw [ht] at hth
                            have HTN := Aside0.mk (show monticuleref18_There.f a1 m.length = some (a1 / 2) from hth)
                            have hta := thereP_at ht
                            have h20 : 0 ≤ a1 / 2 := by have := HAW.out.2.1; unfold W64 at this; omega
                            have HEQ := Aside0.mk (show objectL m a1 = rd_T53 m (a1 / 2) by unfold objectL; rw [ht]; rfl)
                            have hsmx : (rd_T53 m (a1 / 2)).f1.length ≤ 1000 ∧ (rd_T53 m (a1 / 2)).f2.length ≤ 8000 := by rw [rd_get m (a1 / 2) h20 hta.2]; exact HI.out.small _ (List.getElem_mem _)
                            have hfl : F1.length ≤ 1000 ∧ F2.length ≤ 8000 := by rw [hF1, hF2, HEQ.out]; exact hsmx
                            have g0 : decide (0 ≤ a1 / 2) = true := decide_eq_true h20
                            have g1 : decide (a1 / 2 ≥ 0) = true := decide_eq_true h20
                            have g2 : decide (a1 / 2 < 0) = false := decide_eq_false (by omega)
                            have HONE := Aside0.mk (one_refl 1100 F0 F1 F2 (by omega) (by omega))
                            have HIX := Aside0.mk (show 0 ≤ a1 / 2 ∧ a1 / 2 < (m.length : Int) from ⟨h20, hta.2⟩)
                            clear hF0 hF1 hF2 hth ht hfl hta h20 hsmx
                            have k1 : W1.cell? ⟨gb, 1, none⟩ = some (.int .u64 a1) := (blk_cell BKgb.out 1).trans rfl
                            have k2 : W1.cell? ⟨gb, 2, none⟩ = some (.int .u64 a2) := (blk_cell BKgb.out 2).trans rfl
                            have k3 : W1.cell? ⟨gb, 3, none⟩ = some (.int .i64 a3) := (blk_cell BKgb.out 3).trans rfl
                            have k4 : W1.cell? ⟨gb, 4, none⟩ = some (.slice A4 bs.length c4) := (blk_cell BKgb.out 4).trans rfl
                            go_wp2_with (fail)
                            go_at_call 47
                            refine (heap_Object g a1 m 30 wd (usedL m) _ HT.out.heap HSM2.out HAW.out.2.1).mono ?_
                            rintro e w3 ⟨v1, v2, rfl, hR1, hR2, hb⟩
                            rw [← HF1.out] at hR1
                            rw [← HF2.out] at hR2
                            rw [← HF0.out, HTP.out]
                            obtain ⟨P1, p1, rfl, hl1, hC1⟩ := Kd.R_reads hR1
                            obtain ⟨P2, p2, rfl, hl2, hC2⟩ := Kd.R_reads hR2
                            have LP1 := Aside0.mk hl1
                            have LP2 := Aside0.mk hl2
                            have HP1 := Aside0.mk hC1
                            have HP2 := Aside0.mk hC2
                            clear hR1 hR2 hl1 hl2 hC1 hC2
                            have n0_ := Aside0.mk (HT.out.below hb)
                            have n1_ := Aside0.mk (blk_below BKgb.out hb)
                            clear HT BKgb k1 k2 k3 k4
                            have HT := n0_
                            have BKgb := n1_
                            clear n0_ n1_
                            have k1 : w3.cell? ⟨gb, 1, none⟩ = some (.int .u64 a1) := (blk_cell BKgb.out 1).trans rfl
                            have k2 : w3.cell? ⟨gb, 2, none⟩ = some (.int .u64 a2) := (blk_cell BKgb.out 2).trans rfl
                            have k3 : w3.cell? ⟨gb, 3, none⟩ = some (.int .i64 a3) := (blk_cell BKgb.out 3).trans rfl
                            have k4 : w3.cell? ⟨gb, 4, none⟩ = some (.slice A4 bs.length c4) := (blk_cell BKgb.out 4).trans rfl
                            clear hb
                            have HC := Aside0.mk (Below.refl w3.heap.size w3)
                            go_upto_region 17 with (first | ((with_reducible refine gate_dst (N := 17) rfl ?_); refine box_event ?hg (N := 17) ?hd (cs := #[.int .u64 0, .slice none 0 0, .slice none 0 0]) (t := 53) ?hr ?_; (case hd => rfl); (case hg => rfl); (case hr => first | (go_simp; done) | (go_simp; rfl)); intro gp hg wbgp hbox hb; have n0_ := Aside0.mk (below_step (by repeat (first | (with_reducible first | exact HC.out | apply below_alloc | apply pw_below_drewN | apply below_drew1) | exact HC.out)) hb); have n1_ := Aside0.mk (hbox); have n2_ := Aside0.mk (by rw [hg]; exact below_size (by repeat (first | (with_reducible first | exact HC.out | apply below_alloc | apply pw_below_drewN | apply below_drew1) | exact HC.out)) : w3.heap.size ≤ gp); clear HC; have HC := n0_; have BKgp := n1_; have GEgp := n2_; clear n0_ n1_ n2_; clear hb hbox hg; have hzgp0 : wbgp.cell? ⟨gp, 0, none⟩ = some (.int .u64 0) := (blk_cell BKgp.out 0).trans rfl; have hfgp0 := blk_frozen BKgp.out 0; have hzgp1 : wbgp.cell? ⟨gp, 1, none⟩ = some (.slice none 0 0) := (blk_cell BKgp.out 1).trans rfl; have hfgp1 := blk_frozen BKgp.out 1; have hzgp2 : wbgp.cell? ⟨gp, 2, none⟩ = some (.slice none 0 0) := (blk_cell BKgp.out 2).trans rfl; have hfgp2 := blk_frozen BKgp.out 2))
                            have n0_ := Aside0.mk (show (((wbgp.setCell ⟨gp, 0, none⟩ (.int .u64 F0)).setCell ⟨gp, 1, none⟩ (.slice P1 F1.length p1)).setCell ⟨gp, 2, none⟩ (.slice P2 F2.length p2)).heap[gp]? = some (.cells #[.int .u64 F0, .slice P1 F1.length p1, .slice P2 F2.length p2] 53 (0, 0)) from blk_put (cs := #[.int .u64 F0, .slice P1 F1.length p1, .slice none 0 0]) (blk_put (cs := #[.int .u64 F0, .slice none 0 0, .slice none 0 0]) (blk_put (cs := #[.int .u64 0, .slice none 0 0, .slice none 0 0]) BKgp.out 0 _ rfl) 1 _ rfl) 2 _ rfl)
                            have n1_ := Aside0.mk (show Below w3.heap.size w3 (((wbgp.setCell ⟨gp, 0, none⟩ (.int .u64 F0)).setCell ⟨gp, 1, none⟩ (.slice P1 F1.length p1)).setCell ⟨gp, 2, none⟩ (.slice P2 F2.length p2)) from by repeat (first | (with_reducible first | exact HC.out | refine below_set ?_ GEgp.out) | exact HC.out))
                            have n2_ := Aside0.mk (HT.out.below n1_.out)
                            have n3_ := Aside0.mk (blk_below BKgb.out n1_.out)
                            have n4_ := Aside0.mk (Kd.C_below HP1.out n1_.out)
                            have n5_ := Aside0.mk (Kd.C_below HP2.out n1_.out)
                            clear HC BKgp GEgp HT BKgb HP1 HP2 hzgp0 hfgp0 hzgp1 hfgp1 hzgp2 hfgp2
                            generalize (((wbgp.setCell ⟨gp, 0, none⟩ (.int .u64 F0)).setCell ⟨gp, 1, none⟩ (.slice P1 F1.length p1)).setCell ⟨gp, 2, none⟩ (.slice P2 F2.length p2)) = W4 at n0_ n2_ n3_ n4_ n5_ ⊢
                            have BKgp := n0_
                            have HT := n2_
                            have BKgb := n3_
                            have HP1 := n4_
                            have HP2 := n5_
                            clear n0_ n1_ n2_ n3_ n4_ n5_
                            clear k1 k2 k3 k4
                            have k1 : W4.cell? ⟨gb, 1, none⟩ = some (.int .u64 a1) := (blk_cell BKgb.out 1).trans rfl
                            have k2 : W4.cell? ⟨gb, 2, none⟩ = some (.int .u64 a2) := (blk_cell BKgb.out 2).trans rfl
                            have k3 : W4.cell? ⟨gb, 3, none⟩ = some (.int .i64 a3) := (blk_cell BKgb.out 3).trans rfl
                            have k4 : W4.cell? ⟨gb, 4, none⟩ = some (.slice A4 bs.length c4) := (blk_cell BKgb.out 4).trans rfl
                            go_wp2_with (fail)
                            go_at_call 48
                            refine (heap_Class g a1 m 30 wd (usedL m) _ HT.out.heap HL5.out HAW.out.2.1).mono ?_
                            rintro e w5 ⟨rfl, hd⟩
                            rw [← HF0.out, HTP.out]
                            have n0_ := Aside0.mk (HT.out.below hd.below)
                            have n1_ := Aside0.mk (blk_below BKgb.out hd.below)
                            have n2_ := Aside0.mk (Kd.C_below HP1.out hd.below)
                            have n3_ := Aside0.mk (Kd.C_below HP2.out hd.below)
                            have n4_ := Aside0.mk (blk_below BKgp.out hd.below)
                            clear HT BKgb HP1 HP2 BKgp
                            have HT := n0_
                            have BKgb := n1_
                            have HP1 := n2_
                            have HP2 := n3_
                            have BKgp := n4_
                            clear n0_ n1_ n2_ n3_ n4_
                            clear hd k1 k2 k3 k4
                            obtain ⟨Am, cm, hm1, hm2, hm3⟩ := HT.out.ref
                            have BKm := Aside0.mk hm1
                            have LM := Aside0.mk hm2
                            have HVM := Aside0.mk hm3
                            clear hm1 hm2 hm3
                            go_wp2_with (fail)
                            refine start_ (n := 9) (S := fun w' => w'.cell? ⟨gb, 1, none⟩ = some (.int .u64 a1) ∧ w'.cell? ⟨gr, 0, none⟩ = some (.slice Am m.length cm)) (ds := []) #[false, false, false, false, false, false, false, false, false] (by kernel_rfl) rfl rfl ⟨(blk_cell (blk_drew BKgb.out) 1).trans rfl, (blk_cell (blk_drew BKm.out) 0).trans rfl⟩ (fun hHeld => ?_); refine with_tabW ha.tab18 ha.bits18 (fun HT_ HW_ => ?_)
                            have n0_ := Aside0.mk (HT.out.below (below_drew1 (Below.refl _ _)))
                            have n1_ := Aside0.mk (blk_below BKgb.out (below_drew1 (Below.refl _ _)))
                            have n2_ := Aside0.mk (Kd.C_below HP1.out (below_drew1 (Below.refl _ _)))
                            have n3_ := Aside0.mk (Kd.C_below HP2.out (below_drew1 (Below.refl _ _)))
                            have n4_ := Aside0.mk (blk_below BKgp.out (below_drew1 (Below.refl _ _)))
                            have n5_ := Aside0.mk (blk_below BKm.out (below_drew1 (Below.refl _ _)))
                            have n6_ := Aside0.mk (Kd.C_below HVM.out (below_drew1 (Below.refl _ _)))
                            generalize hw_ : w5.drew = w6 at n0_ n1_ n2_ n3_ n4_ n5_ n6_ hHeld ⊢
                            clear hw_ HT BKgb HP1 HP2 BKgp BKm HVM
                            have HT := n0_
                            have BKgb := n1_
                            have HP1 := n2_
                            have HP2 := n3_
                            have BKgp := n4_
                            have BKm := n5_
                            have HVM := n6_
                            clear n0_ n1_ n2_ n3_ n4_ n5_ n6_
                            refine pure_ (i := 0) (N := some 89) (v := ?_) (a' := ?_) #[true, false, false, false, false, false, false, false, false] rfl rfl (any_of HT_.out (by kernel_rfl)) (fun _ _ _ h => h) (Or.inl ⟨by rfl, ?_⟩) ?_ ?_
                            rotate_left
                            · intro w'
                              go_simp
                              with_reducible rfl
                            rotate_left
                            · simp only [Act.put, List.setIfInBounds_toArray, List.set_cons_zero, List.set_cons_succ, i64_w, i32_w]
                              rfl
                            refine take_ (i := 1) (N := some 90) (v := ?_) (a' := ?_) #[true, true, false, false, false, false, false, false, false] rfl rfl (take_ofW HT_.out HW_.out (by kernel_rfl)) (fun _ _ _ h => h) (Or.inl ⟨by rfl, ?_⟩) hHeld ?_ ?_
                            rotate_left
                            · rintro w' ⟨s0, s1⟩
                              go_simp
                              with_reducible rfl
                            rotate_left
                            · simp only [Act.put, List.setIfInBounds_toArray, List.set_cons_zero, List.set_cons_succ, i64_w, i32_w]
                              rfl
                            refine pure_ (i := 2) (N := some 91) (v := ?_) (a' := ?_) #[true, true, true, false, false, false, false, false, false] rfl rfl (any_of HT_.out (by kernel_rfl)) (fun _ _ _ h => h) (Or.inl ⟨by rfl, ?_⟩) ?_ ?_
                            rotate_left
                            · intro w'
                              go_simp
                              with_reducible rfl
                            rotate_left
                            · simp only [Act.put, List.setIfInBounds_toArray, List.set_cons_zero, List.set_cons_succ, i64_w, i32_w]
                              rfl
                            refine pure_ (i := 3) (N := some 92) (v := ?_) (a' := ?_) #[true, true, true, true, false, false, false, false, false] rfl rfl (any_of HT_.out (by kernel_rfl)) (fun _ _ _ h => h) (Or.inl ⟨by rfl, ?_⟩) ?_ ?_
                            rotate_left
                            · intro w'
                              go_simp
                              with_reducible rfl
                            rotate_left
                            · simp only [Act.put, List.setIfInBounds_toArray, List.set_cons_zero, List.set_cons_succ, i64_w, i32_w]
                              rfl
                            refine pure_ (i := 4) (N := some 93) (v := ?_) (a' := ?_) #[true, true, true, true, true, false, false, false, false] rfl rfl (any_of HT_.out (by kernel_rfl)) (fun _ _ _ h => h) (Or.inl ⟨by rfl, ?_⟩) ?_ ?_
                            rotate_left
                            · intro w'
                              go_simp
                              with_reducible rfl
                            rotate_left
                            · simp only [Act.put, List.setIfInBounds_toArray, List.set_cons_zero, List.set_cons_succ, i64_w, i32_w]
                              rfl
                            refine take_ (i := 5) (N := some 94) (v := ?_) (a' := ?_) #[true, true, true, true, true, true, false, false, false] rfl rfl (take_ofW HT_.out HW_.out (by kernel_rfl)) (fun _ _ _ h => h) (Or.inl ⟨by rfl, ?_⟩) hHeld ?_ ?_
                            rotate_left
                            · rintro w' ⟨s0, s1⟩
                              go_simp
                              with_reducible rfl
                            rotate_left
                            · simp only [Act.put, List.setIfInBounds_toArray, List.set_cons_zero, List.set_cons_succ, i64_w, i32_w]
                              rfl
                            refine pure_ (i := 6) (N := some 95) (v := ?_) (a' := ?_) #[true, true, true, true, true, true, true, false, false] rfl rfl (any_of HT_.out (by kernel_rfl)) (fun _ _ _ h => h) (Or.inl ⟨by rfl, ?_⟩) ?_ ?_
                            rotate_left
                            · intro w'
                              go_simp
                              with_reducible rfl
                            rotate_left
                            · simp only [Act.put, List.setIfInBounds_toArray, List.set_cons_zero, List.set_cons_succ, i64_w, i32_w]
                              rfl
                            refine one_ (i := 7) (N := some 96) #[true, true, true, true, true, true, true, true, false] rfl rfl (one_of HT_.out (by kernel_rfl)) (by decide) (fun K hK => ?_)
                            refine goes_ Try.func41 (by kernel_rfl) rfl #[.int .u64 a1, .int .i64 (m.length : Int)] (by rfl) rfl rfl (by (try simp only [List.map_toArray, List.map_cons, List.map_nil]); first | done | rfl | (simp only [List.length_drop, List.length_take]; rfl)) ?_
                            with_reducible refine (monticuleref18_There.calls a1 (m.length : Int) _ _ HTN.out).mono ?_
                            rintro e w7 ⟨rfl, ⟨nd2, rfl⟩⟩
                            refine ⟨_, rfl, ?_⟩
                            refine hK.out _ _ ⟨(blk_cell (blk_drewN BKgb.out _) 1).trans rfl, (blk_cell (blk_drewN BKm.out _) 0).trans rfl⟩ (fun hHeld => ?_)
                            clear hK K
                            refine norm_ (a' := ?_) ?_ ?_
                            rotate_left
                            · show Act.put _ (some 96) _ = _
                              simp only [Act.put, List.setIfInBounds_toArray, List.set_cons_zero, List.set_cons_succ, i64_w, i32_w]
                              rfl
                            have n0_ := Aside0.mk (HT.out.below (pw_below_drewN (Below.refl _ _) nd2))
                            have n1_ := Aside0.mk (blk_below BKgb.out (pw_below_drewN (Below.refl _ _) nd2))
                            have n2_ := Aside0.mk (Kd.C_below HP1.out (pw_below_drewN (Below.refl _ _) nd2))
                            have n3_ := Aside0.mk (Kd.C_below HP2.out (pw_below_drewN (Below.refl _ _) nd2))
                            have n4_ := Aside0.mk (blk_below BKgp.out (pw_below_drewN (Below.refl _ _) nd2))
                            have n5_ := Aside0.mk (blk_below BKm.out (pw_below_drewN (Below.refl _ _) nd2))
                            have n6_ := Aside0.mk (Kd.C_below HVM.out (pw_below_drewN (Below.refl _ _) nd2))
                            generalize hw_ : w6.drewN nd2 = w7 at n0_ n1_ n2_ n3_ n4_ n5_ n6_ hHeld ⊢
                            clear hw_ HT BKgb HP1 HP2 BKgp BKm HVM
                            have HT := n0_
                            have BKgb := n1_
                            have HP1 := n2_
                            have HP2 := n3_
                            have BKgp := n4_
                            have BKm := n5_
                            have HVM := n6_
                            clear n0_ n1_ n2_ n3_ n4_ n5_ n6_
                            refine pure_ (i := 8) (N := some 21) (v := ?_) (a' := ?_) #[true, true, true, true, true, true, true, true, true] rfl rfl (any_of HT_.out (by kernel_rfl)) (fun _ _ _ h => h) (Or.inl ⟨by rfl, ?_⟩) ?_ ?_
                            rotate_left
                            · intro w'
                              go_simp
                              with_reducible rfl
                            rotate_left
                            · simp only [Act.put, List.setIfInBounds_toArray, List.set_cons_zero, List.set_cons_succ, i64_w, i32_w]
                              rfl
                            refine done_ (done_of HT_.out (by kernel_rfl)) ?_
                            obtain ⟨ad2, B1, d1, B2, d2, e0, hx0, hx1, hx2, hl1, hC1, hl2, hC2⟩ := at_T53 HVM.out (a1 / 2) HIX.out.1 HIX.out.2
                            cases e0
                            rw [← HEQ.out] at hx0 hx1 hx2 hl1 hC1 hl2 hC2
                            rw [← HF0.out] at hx0
                            rw [← HF1.out] at hx1 hl1 hC1
                            rw [← HF2.out] at hx2 hl2 hC2
                            have LB1 := Aside0.mk hl1
                            have LB2 := Aside0.mk hl2
                            have HB1 := Aside0.mk hC1
                            have HB2 := Aside0.mk hC2
                            have HX0 := Aside0.mk hx0
                            have HX1 := Aside0.mk hx1
                            have HX2 := Aside0.mk hx2
                            clear hl1 hC1 hl2 hC2 hx0 hx1 hx2
                            have HTo := HT
                            have BKgbo := BKgb
                            have HP1o := HP1
                            have HP2o := HP2
                            have BKgpo := BKgp
                            have BKmo := BKm
                            have HVMo := HVM
                            have HB1o := HB1
                            have HB2o := HB2
                            have HC := Aside0.mk (Below.refl w7.heap.size w7)
                            go_upto_region 20 with (first | ((with_reducible refine gate_dst (N := 22) rfl ?_); refine box_event ?hg (N := 22) ?hd (cs := #[.int .u64 0, .slice none 0 0, .slice none 0 0]) (t := 53) ?hr ?_; (case hd => rfl); (case hg => rfl); (case hr => first | (go_simp; done) | (go_simp; rfl)); intro gq hg wbgq hbox hb; have n0_ := Aside0.mk (below_step (by repeat (first | (with_reducible first | exact HC.out | apply below_alloc | apply pw_below_drewN | apply below_drew1) | exact HC.out)) hb); have n1_ := Aside0.mk (hbox); have n2_ := Aside0.mk (by rw [hg]; exact below_size (by repeat (first | (with_reducible first | exact HC.out | apply below_alloc | apply pw_below_drewN | apply below_drew1) | exact HC.out)) : w7.heap.size ≤ gq); clear HC; have HC := n0_; have BKgq := n1_; have GEgq := n2_; clear n0_ n1_ n2_; clear hb hbox hg; have hzgq0 : wbgq.cell? ⟨gq, 0, none⟩ = some (.int .u64 0) := (blk_cell BKgq.out 0).trans rfl; have hfgq0 := blk_frozen BKgq.out 0; have hzgq1 : wbgq.cell? ⟨gq, 1, none⟩ = some (.slice none 0 0) := (blk_cell BKgq.out 1).trans rfl; have hfgq1 := blk_frozen BKgq.out 1; have hzgq2 : wbgq.cell? ⟨gq, 2, none⟩ = some (.slice none 0 0) := (blk_cell BKgq.out 2).trans rfl; have hfgq2 := blk_frozen BKgq.out 2))
                            have n0_ := Aside0.mk (show (((wbgq.setCell ⟨gq, 0, none⟩ (.int .u64 0)).setCell ⟨gq, 1, none⟩ (.slice none 0 0)).setCell ⟨gq, 2, none⟩ (.slice none 0 0)).heap[gq]? = some (.cells #[.int .u64 0, .slice none 0 0, .slice none 0 0] 53 (0, 0)) from blk_put (cs := #[.int .u64 0, .slice none 0 0, .slice none 0 0]) (blk_put (cs := #[.int .u64 0, .slice none 0 0, .slice none 0 0]) (blk_put (cs := #[.int .u64 0, .slice none 0 0, .slice none 0 0]) BKgq.out 0 _ rfl) 1 _ rfl) 2 _ rfl)
                            have n1_ := Aside0.mk (show Below w7.heap.size w7 (((wbgq.setCell ⟨gq, 0, none⟩ (.int .u64 0)).setCell ⟨gq, 1, none⟩ (.slice none 0 0)).setCell ⟨gq, 2, none⟩ (.slice none 0 0)) from by repeat (first | (with_reducible first | exact HC.out | refine below_set ?_ GEgq.out) | exact HC.out))
                            have n2_ := Aside0.mk (HT.out.below n1_.out)
                            have n3_ := Aside0.mk (blk_below BKgb.out n1_.out)
                            have n4_ := Aside0.mk (Kd.C_below HP1.out n1_.out)
                            have n5_ := Aside0.mk (Kd.C_below HP2.out n1_.out)
                            have n6_ := Aside0.mk (blk_below BKgp.out n1_.out)
                            have n7_ := Aside0.mk (blk_below BKm.out n1_.out)
                            have n8_ := Aside0.mk (Kd.C_below HVM.out n1_.out)
                            have n9_ := Aside0.mk (Kd.C_below HB1.out n1_.out)
                            have n10_ := Aside0.mk (Kd.C_below HB2.out n1_.out)
                            have HGQ := Aside0.mk GEgq.out
                            clear HC BKgq GEgq HT BKgb HP1 HP2 BKgp BKm HVM HB1 HB2 hzgq0 hfgq0 hzgq1 hfgq1 hzgq2 hfgq2
                            generalize (((wbgq.setCell ⟨gq, 0, none⟩ (.int .u64 0)).setCell ⟨gq, 1, none⟩ (.slice none 0 0)).setCell ⟨gq, 2, none⟩ (.slice none 0 0)) = W8 at n0_ n1_ n2_ n3_ n4_ n5_ n6_ n7_ n8_ n9_ n10_ ⊢
                            have BKgq := n0_
                            have HT := n2_
                            have BKgb := n3_
                            have HP1 := n4_
                            have HP2 := n5_
                            have BKgp := n6_
                            have BKm := n7_
                            have HVM := n8_
                            have HB1 := n9_
                            have HB2 := n10_
                            have HB8 := n1_
                            clear n0_ n1_ n2_ n3_ n4_ n5_ n6_ n7_ n8_ n9_ n10_
                            have hx0 := (HB8.out.cell (World.block_lt_of_cell? w7 _ HX0.out)).trans HX0.out
                            have hx1 := (HB8.out.cell (World.block_lt_of_cell? w7 _ HX1.out)).trans HX1.out
                            have hx2 := (HB8.out.cell (World.block_lt_of_cell? w7 _ HX2.out)).trans HX2.out
                            have km : W8.cell? ⟨gr, 0, none⟩ = some (.slice (some ad2) m.length cm) := (blk_cell BKm.out 0).trans rfl
                            have hzq0 : W8.cell? ⟨gq, 0, none⟩ = some (.int .u64 0) := (blk_cell BKgq.out 0).trans rfl
                            have hzq1 : W8.cell? ⟨gq, 1, none⟩ = some (.slice none 0 0) := (blk_cell BKgq.out 1).trans rfl
                            have hzq2 : W8.cell? ⟨gq, 2, none⟩ = some (.slice none 0 0) := (blk_cell BKgq.out 2).trans rfl
                            have hfq0 := blk_frozen BKgq.out 0
                            have hfq1 := blk_frozen BKgq.out 1
                            have hfq2 := blk_frozen BKgq.out 2
                            have i0 : (0 ≤ a1 / 2) = True := eq_true HIX.out.1
                            have i1 : (a1 / 2 < (m.length : Int)) = True := eq_true HIX.out.2
                            go_wp2_with (fail)
                            have n0_ := Aside0.mk (show (((W8.setCell ⟨gq, 0, none⟩ (.int .u64 F0)).setCell ⟨gq, 1, none⟩ (.slice B1 F1.length d1)).setCell ⟨gq, 2, none⟩ (.slice B2 F2.length d2)).heap[gq]? = some (.cells #[.int .u64 F0, .slice B1 F1.length d1, .slice B2 F2.length d2] 53 (0, 0)) from blk_put (cs := #[.int .u64 F0, .slice B1 F1.length d1, .slice none 0 0]) (blk_put (cs := #[.int .u64 F0, .slice none 0 0, .slice none 0 0]) (blk_put (cs := #[.int .u64 0, .slice none 0 0, .slice none 0 0]) BKgq.out 0 _ rfl) 1 _ rfl) 2 _ rfl)
                            have n1_ := Aside0.mk (show Below w7.heap.size w7 (((W8.setCell ⟨gq, 0, none⟩ (.int .u64 F0)).setCell ⟨gq, 1, none⟩ (.slice B1 F1.length d1)).setCell ⟨gq, 2, none⟩ (.slice B2 F2.length d2)) from ((HB8.out.setCell (p := ⟨gq, 0, none⟩) HGQ.out _).setCell (p := ⟨gq, 1, none⟩) HGQ.out _).setCell (p := ⟨gq, 2, none⟩) HGQ.out _)
                            have n2_ := Aside0.mk (HTo.out.below n1_.out)
                            have n3_ := Aside0.mk (blk_below BKgbo.out n1_.out)
                            have n4_ := Aside0.mk (Kd.C_below HP1o.out n1_.out)
                            have n5_ := Aside0.mk (Kd.C_below HP2o.out n1_.out)
                            have n6_ := Aside0.mk (blk_below BKgpo.out n1_.out)
                            have n7_ := Aside0.mk (Kd.C_below HB1o.out n1_.out)
                            have n8_ := Aside0.mk (Kd.C_below HB2o.out n1_.out)
                            clear BKgq HB8 HGQ HX0 HX1 HX2 hx0 hx1 hx2 km hzq0 hzq1 hzq2 hfq0 hfq1 hfq2 i0 i1 BKm HVM BKmo HVMo HT BKgb HP1 HP2 BKgp HB1 HB2 HTo BKgbo HP1o HP2o BKgpo HB1o HB2o
                            generalize (((W8.setCell ⟨gq, 0, none⟩ (.int .u64 F0)).setCell ⟨gq, 1, none⟩ (.slice B1 F1.length d1)).setCell ⟨gq, 2, none⟩ (.slice B2 F2.length d2)) = W9 at n0_ n2_ n3_ n4_ n5_ n6_ n7_ n8_ ⊢
                            have BKgq := n0_
                            have HT := n2_
                            have BKgb := n3_
                            have HP1 := n4_
                            have HP2 := n5_
                            have BKgp := n6_
                            have HB1 := n7_
                            have HB2 := n8_
                            clear n0_ n1_ n2_ n3_ n4_ n5_ n6_ n7_ n8_
                            refine start_ (n := 31) (S := fun w' => w'.cell? ⟨gb, 1, none⟩ = some (.int .u64 a1) ∧ w'.cell? ⟨gp, 0, none⟩ = some (.int .u64 F0) ∧ w'.cell? ⟨gp, 1, none⟩ = some (.slice P1 F1.length p1) ∧ w'.cell? ⟨gp, 2, none⟩ = some (.slice P2 F2.length p2) ∧ w'.cell? ⟨gq, 0, none⟩ = some (.int .u64 F0) ∧ w'.cell? ⟨gq, 1, none⟩ = some (.slice B1 F1.length d1) ∧ w'.cell? ⟨gq, 2, none⟩ = some (.slice B2 F2.length d2)) (ds := []) #[false, false, false, false, false, false, false, false, false, false, false, false, false, false, false, false, false, false, false, false, false, false, false, false, false, false, false, false, false, false, false] (by kernel_rfl) rfl rfl ⟨(blk_cell (blk_drew BKgb.out) 1).trans rfl, (blk_cell (blk_drew BKgp.out) 0).trans rfl, (blk_cell (blk_drew BKgp.out) 1).trans rfl, (blk_cell (blk_drew BKgp.out) 2).trans rfl, (blk_cell (blk_drew BKgq.out) 0).trans rfl, (blk_cell (blk_drew BKgq.out) 1).trans rfl, (blk_cell (blk_drew BKgq.out) 2).trans rfl⟩ (fun hHeld => ?_); refine with_tabW ha.tab22 ha.bits22 (fun HT_ HW_ => ?_)
                            skip
                            have n0_ := Aside0.mk (HT.out.below (below_drew1 (Below.refl _ _)))
                            have n1_ := Aside0.mk (blk_below BKgb.out (below_drew1 (Below.refl _ _)))
                            have n2_ := Aside0.mk (Kd.C_below HP1.out (below_drew1 (Below.refl _ _)))
                            have n3_ := Aside0.mk (Kd.C_below HP2.out (below_drew1 (Below.refl _ _)))
                            have n4_ := Aside0.mk (blk_below BKgp.out (below_drew1 (Below.refl _ _)))
                            have n5_ := Aside0.mk (Kd.C_below HB1.out (below_drew1 (Below.refl _ _)))
                            have n6_ := Aside0.mk (Kd.C_below HB2.out (below_drew1 (Below.refl _ _)))
                            have n7_ := Aside0.mk (blk_below BKgq.out (below_drew1 (Below.refl _ _)))
                            generalize hw_ : W9.drew = w10 at n0_ n1_ n2_ n3_ n4_ n5_ n6_ n7_ hHeld ⊢
                            clear hw_ HT BKgb HP1 HP2 BKgp HB1 HB2 BKgq
                            have HT := n0_
                            have BKgb := n1_
                            have HP1 := n2_
                            have HP2 := n3_
                            have BKgp := n4_
                            have HB1 := n5_
                            have HB2 := n6_
                            have BKgq := n7_
                            clear n0_ n1_ n2_ n3_ n4_ n5_ n6_ n7_
                            refine pure_ (i := 0) (N := some 107) (v := ?_) (a' := ?_) #[true, false, false, false, false, false, false, false, false, false, false, false, false, false, false, false, false, false, false, false, false, false, false, false, false, false, false, false, false, false, false] rfl rfl (any_of HT_.out (by kernel_rfl)) (fun _ _ _ h => h) (Or.inl ⟨by rfl, ?_⟩) ?_ ?_
                            rotate_left
                            · intro w'
                              go_simp
                              with_reducible rfl
                            rotate_left
                            · simp only [Act.put, List.setIfInBounds_toArray, List.set_cons_zero, List.set_cons_succ, i64_w, i32_w]
                              rfl
                            refine pure_ (i := 1) (N := some 108) (v := ?_) (a' := ?_) #[true, true, false, false, false, false, false, false, false, false, false, false, false, false, false, false, false, false, false, false, false, false, false, false, false, false, false, false, false, false, false] rfl rfl (any_of HT_.out (by kernel_rfl)) (fun _ _ _ h => h) (Or.inl ⟨by rfl, ?_⟩) ?_ ?_
                            rotate_left
                            · intro w'
                              go_simp
                              with_reducible rfl
                            rotate_left
                            · simp only [Act.put, List.setIfInBounds_toArray, List.set_cons_zero, List.set_cons_succ, i64_w, i32_w]
                              rfl
                            refine pure_ (i := 2) (N := some 109) (v := ?_) (a' := ?_) #[true, true, true, false, false, false, false, false, false, false, false, false, false, false, false, false, false, false, false, false, false, false, false, false, false, false, false, false, false, false, false] rfl rfl (any_of HT_.out (by kernel_rfl)) (fun _ _ _ h => h) (Or.inl ⟨by rfl, ?_⟩) ?_ ?_
                            rotate_left
                            · intro w'
                              go_simp
                              with_reducible rfl
                            rotate_left
                            · simp only [Act.put, List.setIfInBounds_toArray, List.set_cons_zero, List.set_cons_succ, i64_w, i32_w]
                              rfl
                            refine pure_ (i := 3) (N := some 110) (v := ?_) (a' := ?_) #[true, true, true, true, false, false, false, false, false, false, false, false, false, false, false, false, false, false, false, false, false, false, false, false, false, false, false, false, false, false, false] rfl rfl (any_of HT_.out (by kernel_rfl)) (fun _ _ _ h => h) (Or.inl ⟨by rfl, ?_⟩) ?_ ?_
                            rotate_left
                            · intro w'
                              go_simp
                              with_reducible rfl
                            rotate_left
                            · simp only [Act.put, List.setIfInBounds_toArray, List.set_cons_zero, List.set_cons_succ, i64_w, i32_w]
                              rfl
                            refine pure_ (i := 4) (N := some 111) (v := ?_) (a' := ?_) #[true, true, true, true, true, false, false, false, false, false, false, false, false, false, false, false, false, false, false, false, false, false, false, false, false, false, false, false, false, false, false] rfl rfl (any_of HT_.out (by kernel_rfl)) (fun _ _ _ h => h) (Or.inl ⟨by rfl, ?_⟩) ?_ ?_
                            rotate_left
                            · intro w'
                              go_simp
                              with_reducible rfl
                            rotate_left
                            · simp only [Act.put, List.setIfInBounds_toArray, List.set_cons_zero, List.set_cons_succ, i64_w, i32_w]
                              rfl
                            refine pure_ (i := 5) (N := some 112) (v := ?_) (a' := ?_) #[true, true, true, true, true, true, false, false, false, false, false, false, false, false, false, false, false, false, false, false, false, false, false, false, false, false, false, false, false, false, false] rfl rfl (any_of HT_.out (by kernel_rfl)) (fun _ _ _ h => h) (Or.inl ⟨by rfl, ?_⟩) ?_ ?_
                            rotate_left
                            · intro w'
                              go_simp
                              with_reducible rfl
                            rotate_left
                            · simp only [Act.put, List.setIfInBounds_toArray, List.set_cons_zero, List.set_cons_succ, i64_w, i32_w]
                              rfl
                            refine pure_ (i := 6) (N := some 113) (v := ?_) (a' := ?_) #[true, true, true, true, true, true, true, false, false, false, false, false, false, false, false, false, false, false, false, false, false, false, false, false, false, false, false, false, false, false, false] rfl rfl (any_of HT_.out (by kernel_rfl)) (fun _ _ _ h => h) (Or.inl ⟨by rfl, ?_⟩) ?_ ?_
                            rotate_left
                            · intro w'
                              go_simp
                              with_reducible rfl
                            rotate_left
                            · simp only [Act.put, List.setIfInBounds_toArray, List.set_cons_zero, List.set_cons_succ, i64_w, i32_w]
                              rfl
                            refine pure_ (i := 7) (N := some 114) (v := ?_) (a' := ?_) #[true, true, true, true, true, true, true, true, false, false, false, false, false, false, false, false, false, false, false, false, false, false, false, false, false, false, false, false, false, false, false] rfl rfl (any_of HT_.out (by kernel_rfl)) (fun _ _ _ h => h) (Or.inl ⟨by rfl, ?_⟩) ?_ ?_
                            rotate_left
                            · intro w'
                              go_simp
                              with_reducible rfl
                            rotate_left
                            · simp only [Act.put, List.setIfInBounds_toArray, List.set_cons_zero, List.set_cons_succ, i64_w, i32_w]
                              rfl
                            refine pure_ (i := 8) (N := some 115) (v := ?_) (a' := ?_) #[true, true, true, true, true, true, true, true, true, false, false, false, false, false, false, false, false, false, false, false, false, false, false, false, false, false, false, false, false, false, false] rfl rfl (any_of HT_.out (by kernel_rfl)) (fun _ _ _ h => h) (Or.inl ⟨by rfl, ?_⟩) ?_ ?_
                            rotate_left
                            · intro w'
                              go_simp
                              with_reducible rfl
                            rotate_left
                            · simp only [Act.put, List.setIfInBounds_toArray, List.set_cons_zero, List.set_cons_succ, i64_w, i32_w]
                              rfl
                            refine pure_ (i := 9) (N := some 116) (v := ?_) (a' := ?_) #[true, true, true, true, true, true, true, true, true, true, false, false, false, false, false, false, false, false, false, false, false, false, false, false, false, false, false, false, false, false, false] rfl rfl (any_of HT_.out (by kernel_rfl)) (fun _ _ _ h => h) (Or.inl ⟨by rfl, ?_⟩) ?_ ?_
                            rotate_left
                            · intro w'
                              go_simp
                              with_reducible rfl
                            rotate_left
                            · simp only [Act.put, List.setIfInBounds_toArray, List.set_cons_zero, List.set_cons_succ, i64_w, i32_w]
                              rfl
                            refine pure_ (i := 10) (N := some 117) (v := ?_) (a' := ?_) #[true, true, true, true, true, true, true, true, true, true, true, false, false, false, false, false, false, false, false, false, false, false, false, false, false, false, false, false, false, false, false] rfl rfl (any_of HT_.out (by kernel_rfl)) (fun _ _ _ h => h) (Or.inl ⟨by rfl, ?_⟩) ?_ ?_
                            rotate_left
                            · intro w'
                              go_simp
                              with_reducible rfl
                            rotate_left
                            · simp only [Act.put, List.setIfInBounds_toArray, List.set_cons_zero, List.set_cons_succ, i64_w, i32_w]
                              rfl
                            refine pure_ (i := 11) (N := some 118) (v := ?_) (a' := ?_) #[true, true, true, true, true, true, true, true, true, true, true, true, false, false, false, false, false, false, false, false, false, false, false, false, false, false, false, false, false, false, false] rfl rfl (any_of HT_.out (by kernel_rfl)) (fun _ _ _ h => h) (Or.inl ⟨by rfl, ?_⟩) ?_ ?_
                            rotate_left
                            · intro w'
                              go_simp
                              with_reducible rfl
                            rotate_left
                            · simp only [Act.put, List.setIfInBounds_toArray, List.set_cons_zero, List.set_cons_succ, i64_w, i32_w]
                              rfl
                            refine take_ (i := 12) (N := some 119) (v := ?_) (a' := ?_) #[true, true, true, true, true, true, true, true, true, true, true, true, true, false, false, false, false, false, false, false, false, false, false, false, false, false, false, false, false, false, false] rfl rfl (take_ofW HT_.out HW_.out (by kernel_rfl)) (fun _ _ _ h => h) (Or.inl ⟨by rfl, ?_⟩) hHeld ?_ ?_
                            rotate_left
                            · rintro w' ⟨s0, s1, s2, s3, s4, s5, s6⟩
                              go_simp
                              with_reducible rfl
                            rotate_left
                            · simp only [Act.put, List.setIfInBounds_toArray, List.set_cons_zero, List.set_cons_succ, i64_w, i32_w]
                              rfl
                            refine pure_ (i := 13) (N := some 120) (v := ?_) (a' := ?_) #[true, true, true, true, true, true, true, true, true, true, true, true, true, true, false, false, false, false, false, false, false, false, false, false, false, false, false, false, false, false, false] rfl rfl (any_of HT_.out (by kernel_rfl)) (fun _ _ _ h => h) (Or.inl ⟨by rfl, ?_⟩) ?_ ?_
                            rotate_left
                            · intro w'
                              go_simp
                              with_reducible rfl
                            rotate_left
                            · simp only [Act.put, List.setIfInBounds_toArray, List.set_cons_zero, List.set_cons_succ, i64_w, i32_w]
                              rfl
                            refine pure_ (i := 14) (N := some 121) (v := ?_) (a' := ?_) #[true, true, true, true, true, true, true, true, true, true, true, true, true, true, true, false, false, false, false, false, false, false, false, false, false, false, false, false, false, false, false] rfl rfl (any_of HT_.out (by kernel_rfl)) (fun _ _ _ h => h) (Or.inl ⟨by rfl, ?_⟩) ?_ ?_
                            rotate_left
                            · intro w'
                              go_simp
                              with_reducible rfl
                            rotate_left
                            · simp only [Act.put, List.setIfInBounds_toArray, List.set_cons_zero, List.set_cons_succ, i64_w, i32_w]
                              rfl
                            refine pure_ (i := 15) (N := some 122) (v := ?_) (a' := ?_) #[true, true, true, true, true, true, true, true, true, true, true, true, true, true, true, true, false, false, false, false, false, false, false, false, false, false, false, false, false, false, false] rfl rfl (any_of HT_.out (by kernel_rfl)) (fun _ _ _ h => h) (Or.inl ⟨by rfl, ?_⟩) ?_ ?_
                            rotate_left
                            · intro w'
                              go_simp
                              with_reducible rfl
                            rotate_left
                            · simp only [Act.put, List.setIfInBounds_toArray, List.set_cons_zero, List.set_cons_succ, i64_w, i32_w]
                              rfl
                            refine take_ (i := 16) (N := some 123) (v := ?_) (a' := ?_) #[true, true, true, true, true, true, true, true, true, true, true, true, true, true, true, true, true, false, false, false, false, false, false, false, false, false, false, false, false, false, false] rfl rfl (take_ofW HT_.out HW_.out (by kernel_rfl)) (fun _ _ _ h => h) (Or.inl ⟨by rfl, ?_⟩) hHeld ?_ ?_
                            rotate_left
                            · rintro w' ⟨s0, s1, s2, s3, s4, s5, s6⟩
                              go_simp
                              with_reducible rfl
                            rotate_left
                            · simp only [Act.put, List.setIfInBounds_toArray, List.set_cons_zero, List.set_cons_succ, i64_w, i32_w]
                              rfl
                            refine take_ (i := 17) (N := some 124) (v := ?_) (a' := ?_) #[true, true, true, true, true, true, true, true, true, true, true, true, true, true, true, true, true, true, false, false, false, false, false, false, false, false, false, false, false, false, false] rfl rfl (take_ofW HT_.out HW_.out (by kernel_rfl)) (fun _ _ _ h => h) (Or.inl ⟨by rfl, ?_⟩) hHeld ?_ ?_
                            rotate_left
                            · rintro w' ⟨s0, s1, s2, s3, s4, s5, s6⟩
                              go_simp
                              with_reducible rfl
                            rotate_left
                            · simp only [Act.put, List.setIfInBounds_toArray, List.set_cons_zero, List.set_cons_succ, i64_w, i32_w]
                              rfl
                            refine one_ (i := 18) (N := some 125) #[true, true, true, true, true, true, true, true, true, true, true, true, true, true, true, true, true, true, true, false, false, false, false, false, false, false, false, false, false, false, false] rfl rfl (one_of HT_.out (by kernel_rfl)) (by decide) (fun K hK => ?_)
                            refine goes_ Try.func49 (by kernel_rfl) rfl #[.agg #[.int .u64 F0, .slice P1 F1.length p1, .slice P2 F2.length p2], .agg #[.int .u64 F0, .slice B1 F1.length d1, .slice B2 F2.length d2]] (by rfl) rfl rfl (by (try simp only [List.map_toArray, List.map_cons, List.map_nil]); first | done | rfl | (simp only [List.length_drop, List.length_take]; rfl)) ?_
                            with_reducible refine (monticuleref18_One.calls 1100 F0 P1 p1 F1 P2 p2 F2 F0 B1 d1 F1 B2 d2 F2 true _ HP1.out LP1.out HP2.out LP2.out HB1.out LB1.out HB2.out LB2.out HONE.out).mono ?_
                            rintro e w11 ⟨rfl, hb⟩
                            have n0_ := Aside0.mk (HT.out.below hb)
                            have n1_ := Aside0.mk (blk_below BKgb.out hb)
                            have n2_ := Aside0.mk (Kd.C_below HP1.out hb)
                            have n3_ := Aside0.mk (Kd.C_below HP2.out hb)
                            have n4_ := Aside0.mk (blk_below BKgp.out hb)
                            have n5_ := Aside0.mk (Kd.C_below HB1.out hb)
                            have n6_ := Aside0.mk (Kd.C_below HB2.out hb)
                            have n7_ := Aside0.mk (blk_below BKgq.out hb)
                            clear HT BKgb HP1 HP2 BKgp HB1 HB2 BKgq
                            have HT := n0_
                            have BKgb := n1_
                            have HP1 := n2_
                            have HP2 := n3_
                            have BKgp := n4_
                            have HB1 := n5_
                            have HB2 := n6_
                            have BKgq := n7_
                            clear n0_ n1_ n2_ n3_ n4_ n5_ n6_ n7_
                            clear hb
                            refine ⟨_, rfl, ?_⟩
                            refine hK.out _ _ ⟨(blk_cell BKgb.out 1).trans rfl, (blk_cell BKgp.out 0).trans rfl, (blk_cell BKgp.out 1).trans rfl, (blk_cell BKgp.out 2).trans rfl, (blk_cell BKgq.out 0).trans rfl, (blk_cell BKgq.out 1).trans rfl, (blk_cell BKgq.out 2).trans rfl⟩ (fun hHeld => ?_)
                            clear hK K
                            refine norm_ (a' := ?_) ?_ ?_
                            rotate_left
                            · show Act.put _ (some 125) _ = _
                              simp only [Act.put, List.setIfInBounds_toArray, List.set_cons_zero, List.set_cons_succ, i64_w, i32_w]
                              rfl
                            refine pure_ (i := 19) (N := some 126) (v := ?_) (a' := ?_) #[true, true, true, true, true, true, true, true, true, true, true, true, true, true, true, true, true, true, true, true, false, false, false, false, false, false, false, false, false, false, false] rfl rfl (any_of HT_.out (by kernel_rfl)) (fun _ _ _ h => h) (Or.inl ⟨by rfl, ?_⟩) ?_ ?_
                            rotate_left
                            · intro w'
                              go_simp
                              with_reducible rfl
                            rotate_left
                            · simp only [Act.put, List.setIfInBounds_toArray, List.set_cons_zero, List.set_cons_succ, i64_w, i32_w]
                              rfl
                            refine pure_ (i := 20) (N := some 127) (v := ?_) (a' := ?_) #[true, true, true, true, true, true, true, true, true, true, true, true, true, true, true, true, true, true, true, true, true, false, false, false, false, false, false, false, false, false, false] rfl rfl (any_of HT_.out (by kernel_rfl)) (fun _ _ _ h => h) (Or.inl ⟨by rfl, ?_⟩) ?_ ?_
                            rotate_left
                            · intro w'
                              go_simp
                              with_reducible rfl
                            rotate_left
                            · simp only [Act.put, List.setIfInBounds_toArray, List.set_cons_zero, List.set_cons_succ, i64_w, i32_w]
                              rfl
                            refine pure_ (i := 21) (N := some 128) (v := ?_) (a' := ?_) #[true, true, true, true, true, true, true, true, true, true, true, true, true, true, true, true, true, true, true, true, true, true, false, false, false, false, false, false, false, false, false] rfl rfl (any_of HT_.out (by kernel_rfl)) (fun _ _ _ h => h) (Or.inl ⟨by rfl, ?_⟩) ?_ ?_
                            rotate_left
                            · intro w'
                              go_simp
                              with_reducible rfl
                            rotate_left
                            · simp only [Act.put, List.setIfInBounds_toArray, List.set_cons_zero, List.set_cons_succ, i64_w, i32_w]
                              rfl
                            refine pure_ (i := 22) (N := some 129) (v := ?_) (a' := ?_) #[true, true, true, true, true, true, true, true, true, true, true, true, true, true, true, true, true, true, true, true, true, true, true, false, false, false, false, false, false, false, false] rfl rfl (any_of HT_.out (by kernel_rfl)) (fun _ _ _ h => h) (Or.inl ⟨by rfl, ?_⟩) ?_ ?_
                            rotate_left
                            · intro w'
                              go_simp
                              with_reducible rfl
                            rotate_left
                            · simp only [Act.put, List.setIfInBounds_toArray, List.set_cons_zero, List.set_cons_succ, i64_w, i32_w]
                              rfl
                            refine pure_ (i := 23) (N := some 130) (v := ?_) (a' := ?_) #[true, true, true, true, true, true, true, true, true, true, true, true, true, true, true, true, true, true, true, true, true, true, true, true, false, false, false, false, false, false, false] rfl rfl (any_of HT_.out (by kernel_rfl)) (fun _ _ _ h => h) (Or.inl ⟨by rfl, ?_⟩) ?_ ?_
                            rotate_left
                            · intro w'
                              go_simp
                              with_reducible rfl
                            rotate_left
                            · simp only [Act.put, List.setIfInBounds_toArray, List.set_cons_zero, List.set_cons_succ, i64_w, i32_w]
                              rfl
                            refine take_ (i := 24) (N := some 131) (v := ?_) (a' := ?_) #[true, true, true, true, true, true, true, true, true, true, true, true, true, true, true, true, true, true, true, true, true, true, true, true, true, false, false, false, false, false, false] rfl rfl (take_ofW HT_.out HW_.out (by kernel_rfl)) (fun _ _ _ h => h) (Or.inl ⟨by rfl, ?_⟩) hHeld ?_ ?_
                            rotate_left
                            · rintro w' ⟨s0, s1, s2, s3, s4, s5, s6⟩
                              go_simp
                              with_reducible rfl
                            rotate_left
                            · simp only [Act.put, List.setIfInBounds_toArray, List.set_cons_zero, List.set_cons_succ, i64_w, i32_w]
                              rfl
                            refine pure_ (i := 26) (N := some 133) (v := ?_) (a' := ?_) #[true, true, true, true, true, true, true, true, true, true, true, true, true, true, true, true, true, true, true, true, true, true, true, true, true, false, true, false, false, false, false] rfl rfl (any_of HT_.out (by kernel_rfl)) (fun _ _ _ h => h) (Or.inl ⟨by rfl, ?_⟩) ?_ ?_
                            rotate_left
                            · intro w'
                              go_simp
                              with_reducible rfl
                            rotate_left
                            · simp only [Act.put, List.setIfInBounds_toArray, List.set_cons_zero, List.set_cons_succ, i64_w, i32_w]
                              rfl
                            refine take_ (i := 27) (N := some 134) (v := ?_) (a' := ?_) #[true, true, true, true, true, true, true, true, true, true, true, true, true, true, true, true, true, true, true, true, true, true, true, true, true, false, true, true, false, false, false] rfl rfl (take_ofW HT_.out HW_.out (by kernel_rfl)) (fun _ _ _ h => h) (Or.inl ⟨by rfl, ?_⟩) hHeld ?_ ?_
                            rotate_left
                            · rintro w' ⟨s0, s1, s2, s3, s4, s5, s6⟩
                              go_simp
                              with_reducible rfl
                            rotate_left
                            · simp only [Act.put, List.setIfInBounds_toArray, List.set_cons_zero, List.set_cons_succ, i64_w, i32_w]
                              rfl
                            refine pure_ (i := 28) (N := some 135) (v := ?_) (a' := ?_) #[true, true, true, true, true, true, true, true, true, true, true, true, true, true, true, true, true, true, true, true, true, true, true, true, true, false, true, true, true, false, false] rfl rfl (any_of HT_.out (by kernel_rfl)) (fun _ _ _ h => h) (Or.inl ⟨by rfl, ?_⟩) ?_ ?_
                            rotate_left
                            · intro w'
                              go_simp
                              with_reducible rfl
                            rotate_left
                            · simp only [Act.put, List.setIfInBounds_toArray, List.set_cons_zero, List.set_cons_succ, i64_w, i32_w]
                              rfl
                            refine one_ (i := 25) (N := some 132) #[true, true, true, true, true, true, true, true, true, true, true, true, true, true, true, true, true, true, true, true, true, true, true, true, true, true, true, true, true, false, false] rfl rfl (one_of HT_.out (by kernel_rfl)) (by decide) (fun K hK => ?_)
                            refine goes_ Try.func50 (by kernel_rfl) rfl #[.pointer (some ⟨g, 0, none⟩), .int .u64 a1] (by rfl) rfl rfl (by (try simp only [List.map_toArray, List.map_cons, List.map_nil]); first | done | rfl | (simp only [List.length_drop, List.length_take]; rfl)) ?_
                            with_reducible refine (heap_Size g a1 m 30 wd (usedL m) _ HT.out.heap HL5.out HAW.out.2.1).mono ?_
                            rintro e w12 ⟨rfl, ⟨nd3, rfl⟩⟩
                            rw [← HF1.out]
                            refine ⟨_, rfl, ?_⟩
                            refine hK.out _ _ ⟨(blk_cell (blk_drewN BKgb.out _) 1).trans rfl, (blk_cell (blk_drewN BKgp.out _) 0).trans rfl, (blk_cell (blk_drewN BKgp.out _) 1).trans rfl, (blk_cell (blk_drewN BKgp.out _) 2).trans rfl, (blk_cell (blk_drewN BKgq.out _) 0).trans rfl, (blk_cell (blk_drewN BKgq.out _) 1).trans rfl, (blk_cell (blk_drewN BKgq.out _) 2).trans rfl⟩ (fun hHeld => ?_)
                            clear hK K
                            refine norm_ (a' := ?_) ?_ ?_
                            rotate_left
                            · show Act.put _ (some 132) _ = _
                              simp only [Act.put, List.setIfInBounds_toArray, List.set_cons_zero, List.set_cons_succ, i64_w, i32_w]
                              rfl
                            have n0_ := Aside0.mk (HT.out.below (pw_below_drewN (Below.refl _ _) nd3))
                            have n1_ := Aside0.mk (blk_below BKgb.out (pw_below_drewN (Below.refl _ _) nd3))
                            have n2_ := Aside0.mk (Kd.C_below HP1.out (pw_below_drewN (Below.refl _ _) nd3))
                            have n3_ := Aside0.mk (Kd.C_below HP2.out (pw_below_drewN (Below.refl _ _) nd3))
                            have n4_ := Aside0.mk (blk_below BKgp.out (pw_below_drewN (Below.refl _ _) nd3))
                            have n5_ := Aside0.mk (Kd.C_below HB1.out (pw_below_drewN (Below.refl _ _) nd3))
                            have n6_ := Aside0.mk (Kd.C_below HB2.out (pw_below_drewN (Below.refl _ _) nd3))
                            have n7_ := Aside0.mk (blk_below BKgq.out (pw_below_drewN (Below.refl _ _) nd3))
                            generalize hw_ : w11.drewN nd3 = w12 at n0_ n1_ n2_ n3_ n4_ n5_ n6_ n7_ hHeld ⊢
                            clear hw_ HT BKgb HP1 HP2 BKgp HB1 HB2 BKgq
                            have HT := n0_
                            have BKgb := n1_
                            have HP1 := n2_
                            have HP2 := n3_
                            have BKgp := n4_
                            have HB1 := n5_
                            have HB2 := n6_
                            have BKgq := n7_
                            clear n0_ n1_ n2_ n3_ n4_ n5_ n6_ n7_
                            refine pure_ (i := 29) (N := some 136) (v := ?_) (a' := ?_) #[true, true, true, true, true, true, true, true, true, true, true, true, true, true, true, true, true, true, true, true, true, true, true, true, true, true, true, true, true, true, false] rfl rfl (any_of HT_.out (by kernel_rfl)) (fun _ _ _ h => h) (Or.inl ⟨by rfl, ?_⟩) ?_ ?_
                            rotate_left
                            · intro w'
                              go_simp
                              with_reducible rfl
                            rotate_left
                            · simp only [Act.put, List.setIfInBounds_toArray, List.set_cons_zero, List.set_cons_succ, i64_w, i32_w]
                              rfl
                            refine pure_ (i := 30) (N := some 137) (v := ?_) (a' := ?_) #[true, true, true, true, true, true, true, true, true, true, true, true, true, true, true, true, true, true, true, true, true, true, true, true, true, true, true, true, true, true, true] rfl rfl (any_of HT_.out (by kernel_rfl)) (fun _ _ _ h => h) (Or.inl ⟨by rfl, ?_⟩) ?_ ?_
                            rotate_left
                            · intro w'
                              go_simp
                              with_reducible rfl
                            rotate_left
                            · simp only [Act.put, List.setIfInBounds_toArray, List.set_cons_zero, List.set_cons_succ, i64_w, i32_w]
                              rfl
                            refine done_ (done_of HT_.out (by kernel_rfl)) ?_
                            go_wp2_with (fail)
                            go_meet
                            case rel => exact ⟨0, 0, m, rfl, rfl, rfl, rfl, HT, HI⟩
                        | false =>
                          as_aux_lemma =>
                            have HTP := Aside0.mk ht
                            obtain ⟨F0, hF0⟩ : ∃ F0, F0 = (objectL m a1).f0 := ⟨_, rfl⟩
                            obtain ⟨F1, hF1⟩ : ∃ F1, F1 = (objectL m a1).f1 := ⟨_, rfl⟩
                            obtain ⟨F2, hF2⟩ : ∃ F2, F2 = (objectL m a1).f2 := ⟨_, rfl⟩
                            have HF0 := Aside0.mk hF0
                            have HF1 := Aside0.mk hF1
                            have HF2 := Aside0.mk hF2
                            have hth := there18 HAW.out.2.1 m.length HL5.out
                            rw [ht] at hth
                            have HTN := Aside0.mk (show monticuleref18_There.f a1 m.length = some (-1) from hth)
                            have he_ : objectL m a1 = ⟨0, [], []⟩ := by unfold objectL; rw [ht]; rfl
                            rw [he_] at hF0 hF1 hF2
                            have hfl : F1.length ≤ 1000 ∧ F2.length ≤ 8000 := by rw [hF1, hF2]; exact ⟨Nat.zero_le _, Nat.zero_le _⟩
                            clear he_
                            have HG0 := Aside0.mk (show F0 = 0 from hF0)
                            have HG1 := Aside0.mk (show F1 = [] from hF1)
                            have HG2 := Aside0.mk (show F2 = [] from hF2)
                            have HONE := Aside0.mk (one_refl 1100 F0 F1 F2 (by omega) (by omega))
                            clear hF0 hF1 hF2 hth ht hfl
                            have k1 : W1.cell? ⟨gb, 1, none⟩ = some (.int .u64 a1) := (blk_cell BKgb.out 1).trans rfl
                            have k2 : W1.cell? ⟨gb, 2, none⟩ = some (.int .u64 a2) := (blk_cell BKgb.out 2).trans rfl
                            have k3 : W1.cell? ⟨gb, 3, none⟩ = some (.int .i64 a3) := (blk_cell BKgb.out 3).trans rfl
                            have k4 : W1.cell? ⟨gb, 4, none⟩ = some (.slice A4 bs.length c4) := (blk_cell BKgb.out 4).trans rfl
                            go_wp2_with (fail)
                            go_at_call 47
                            refine (heap_Object g a1 m 30 wd (usedL m) _ HT.out.heap HSM2.out HAW.out.2.1).mono ?_
                            rintro e w3 ⟨v1, v2, rfl, hR1, hR2, hb⟩
                            rw [← HF1.out] at hR1
                            rw [← HF2.out] at hR2
                            rw [← HF0.out, HTP.out]
                            obtain ⟨P1, p1, rfl, hl1, hC1⟩ := Kd.R_reads hR1
                            obtain ⟨P2, p2, rfl, hl2, hC2⟩ := Kd.R_reads hR2
                            have LP1 := Aside0.mk hl1
                            have LP2 := Aside0.mk hl2
                            have HP1 := Aside0.mk hC1
                            have HP2 := Aside0.mk hC2
                            clear hR1 hR2 hl1 hl2 hC1 hC2
                            have n0_ := Aside0.mk (HT.out.below hb)
                            have n1_ := Aside0.mk (blk_below BKgb.out hb)
                            clear HT BKgb k1 k2 k3 k4
                            have HT := n0_
                            have BKgb := n1_
                            clear n0_ n1_
                            have k1 : w3.cell? ⟨gb, 1, none⟩ = some (.int .u64 a1) := (blk_cell BKgb.out 1).trans rfl
                            have k2 : w3.cell? ⟨gb, 2, none⟩ = some (.int .u64 a2) := (blk_cell BKgb.out 2).trans rfl
                            have k3 : w3.cell? ⟨gb, 3, none⟩ = some (.int .i64 a3) := (blk_cell BKgb.out 3).trans rfl
                            have k4 : w3.cell? ⟨gb, 4, none⟩ = some (.slice A4 bs.length c4) := (blk_cell BKgb.out 4).trans rfl
                            clear hb
                            have HC := Aside0.mk (Below.refl w3.heap.size w3)
                            go_upto_region 17 with (first | ((with_reducible refine gate_dst (N := 17) rfl ?_); refine box_event ?hg (N := 17) ?hd (cs := #[.int .u64 0, .slice none 0 0, .slice none 0 0]) (t := 53) ?hr ?_; (case hd => rfl); (case hg => rfl); (case hr => first | (go_simp; done) | (go_simp; rfl)); intro gp hg wbgp hbox hb; have n0_ := Aside0.mk (below_step (by repeat (first | (with_reducible first | exact HC.out | apply below_alloc | apply pw_below_drewN | apply below_drew1) | exact HC.out)) hb); have n1_ := Aside0.mk (hbox); have n2_ := Aside0.mk (by rw [hg]; exact below_size (by repeat (first | (with_reducible first | exact HC.out | apply below_alloc | apply pw_below_drewN | apply below_drew1) | exact HC.out)) : w3.heap.size ≤ gp); clear HC; have HC := n0_; have BKgp := n1_; have GEgp := n2_; clear n0_ n1_ n2_; clear hb hbox hg; have hzgp0 : wbgp.cell? ⟨gp, 0, none⟩ = some (.int .u64 0) := (blk_cell BKgp.out 0).trans rfl; have hfgp0 := blk_frozen BKgp.out 0; have hzgp1 : wbgp.cell? ⟨gp, 1, none⟩ = some (.slice none 0 0) := (blk_cell BKgp.out 1).trans rfl; have hfgp1 := blk_frozen BKgp.out 1; have hzgp2 : wbgp.cell? ⟨gp, 2, none⟩ = some (.slice none 0 0) := (blk_cell BKgp.out 2).trans rfl; have hfgp2 := blk_frozen BKgp.out 2))
                            have n0_ := Aside0.mk (show (((wbgp.setCell ⟨gp, 0, none⟩ (.int .u64 F0)).setCell ⟨gp, 1, none⟩ (.slice P1 F1.length p1)).setCell ⟨gp, 2, none⟩ (.slice P2 F2.length p2)).heap[gp]? = some (.cells #[.int .u64 F0, .slice P1 F1.length p1, .slice P2 F2.length p2] 53 (0, 0)) from blk_put (cs := #[.int .u64 F0, .slice P1 F1.length p1, .slice none 0 0]) (blk_put (cs := #[.int .u64 F0, .slice none 0 0, .slice none 0 0]) (blk_put (cs := #[.int .u64 0, .slice none 0 0, .slice none 0 0]) BKgp.out 0 _ rfl) 1 _ rfl) 2 _ rfl)
                            have n1_ := Aside0.mk (show Below w3.heap.size w3 (((wbgp.setCell ⟨gp, 0, none⟩ (.int .u64 F0)).setCell ⟨gp, 1, none⟩ (.slice P1 F1.length p1)).setCell ⟨gp, 2, none⟩ (.slice P2 F2.length p2)) from by repeat (first | (with_reducible first | exact HC.out | refine below_set ?_ GEgp.out) | exact HC.out))
                            have n2_ := Aside0.mk (HT.out.below n1_.out)
                            have n3_ := Aside0.mk (blk_below BKgb.out n1_.out)
                            have n4_ := Aside0.mk (Kd.C_below HP1.out n1_.out)
                            have n5_ := Aside0.mk (Kd.C_below HP2.out n1_.out)
                            clear HC BKgp GEgp HT BKgb HP1 HP2 hzgp0 hfgp0 hzgp1 hfgp1 hzgp2 hfgp2
                            generalize (((wbgp.setCell ⟨gp, 0, none⟩ (.int .u64 F0)).setCell ⟨gp, 1, none⟩ (.slice P1 F1.length p1)).setCell ⟨gp, 2, none⟩ (.slice P2 F2.length p2)) = W4 at n0_ n2_ n3_ n4_ n5_ ⊢
                            have BKgp := n0_
                            have HT := n2_
                            have BKgb := n3_
                            have HP1 := n4_
                            have HP2 := n5_
                            clear n0_ n1_ n2_ n3_ n4_ n5_
                            clear k1 k2 k3 k4
                            have k1 : W4.cell? ⟨gb, 1, none⟩ = some (.int .u64 a1) := (blk_cell BKgb.out 1).trans rfl
                            have k2 : W4.cell? ⟨gb, 2, none⟩ = some (.int .u64 a2) := (blk_cell BKgb.out 2).trans rfl
                            have k3 : W4.cell? ⟨gb, 3, none⟩ = some (.int .i64 a3) := (blk_cell BKgb.out 3).trans rfl
                            have k4 : W4.cell? ⟨gb, 4, none⟩ = some (.slice A4 bs.length c4) := (blk_cell BKgb.out 4).trans rfl
                            go_wp2_with (fail)
                            go_at_call 48
                            refine (heap_Class g a1 m 30 wd (usedL m) _ HT.out.heap HL5.out HAW.out.2.1).mono ?_
                            rintro e w5 ⟨rfl, hd⟩
                            rw [← HF0.out, HTP.out]
                            have n0_ := Aside0.mk (HT.out.below hd.below)
                            have n1_ := Aside0.mk (blk_below BKgb.out hd.below)
                            have n2_ := Aside0.mk (Kd.C_below HP1.out hd.below)
                            have n3_ := Aside0.mk (Kd.C_below HP2.out hd.below)
                            have n4_ := Aside0.mk (blk_below BKgp.out hd.below)
                            clear HT BKgb HP1 HP2 BKgp
                            have HT := n0_
                            have BKgb := n1_
                            have HP1 := n2_
                            have HP2 := n3_
                            have BKgp := n4_
                            clear n0_ n1_ n2_ n3_ n4_
                            clear hd k1 k2 k3 k4
                            obtain ⟨Am, cm, hm1, hm2, hm3⟩ := HT.out.ref
                            have BKm := Aside0.mk hm1
                            have LM := Aside0.mk hm2
                            have HVM := Aside0.mk hm3
                            clear hm1 hm2 hm3
                            go_wp2_with (fail)
                            refine start_ (n := 9) (S := fun w' => w'.cell? ⟨gb, 1, none⟩ = some (.int .u64 a1) ∧ w'.cell? ⟨gr, 0, none⟩ = some (.slice Am m.length cm)) (ds := []) #[false, false, false, false, false, false, false, false, false] (by kernel_rfl) rfl rfl ⟨(blk_cell (blk_drew BKgb.out) 1).trans rfl, (blk_cell (blk_drew BKm.out) 0).trans rfl⟩ (fun hHeld => ?_); refine with_tabW ha.tab18 ha.bits18 (fun HT_ HW_ => ?_)
                            have n0_ := Aside0.mk (HT.out.below (below_drew1 (Below.refl _ _)))
                            have n1_ := Aside0.mk (blk_below BKgb.out (below_drew1 (Below.refl _ _)))
                            have n2_ := Aside0.mk (Kd.C_below HP1.out (below_drew1 (Below.refl _ _)))
                            have n3_ := Aside0.mk (Kd.C_below HP2.out (below_drew1 (Below.refl _ _)))
                            have n4_ := Aside0.mk (blk_below BKgp.out (below_drew1 (Below.refl _ _)))
                            have n5_ := Aside0.mk (blk_below BKm.out (below_drew1 (Below.refl _ _)))
                            have n6_ := Aside0.mk (Kd.C_below HVM.out (below_drew1 (Below.refl _ _)))
                            generalize hw_ : w5.drew = w6 at n0_ n1_ n2_ n3_ n4_ n5_ n6_ hHeld ⊢
                            clear hw_ HT BKgb HP1 HP2 BKgp BKm HVM
                            have HT := n0_
                            have BKgb := n1_
                            have HP1 := n2_
                            have HP2 := n3_
                            have BKgp := n4_
                            have BKm := n5_
                            have HVM := n6_
                            clear n0_ n1_ n2_ n3_ n4_ n5_ n6_
                            refine pure_ (i := 0) (N := some 89) (v := ?_) (a' := ?_) #[true, false, false, false, false, false, false, false, false] rfl rfl (any_of HT_.out (by kernel_rfl)) (fun _ _ _ h => h) (Or.inl ⟨by rfl, ?_⟩) ?_ ?_
                            rotate_left
                            · intro w'
                              go_simp
                              with_reducible rfl
                            rotate_left
                            · simp only [Act.put, List.setIfInBounds_toArray, List.set_cons_zero, List.set_cons_succ, i64_w, i32_w]
                              rfl
                            refine take_ (i := 1) (N := some 90) (v := ?_) (a' := ?_) #[true, true, false, false, false, false, false, false, false] rfl rfl (take_ofW HT_.out HW_.out (by kernel_rfl)) (fun _ _ _ h => h) (Or.inl ⟨by rfl, ?_⟩) hHeld ?_ ?_
                            rotate_left
                            · rintro w' ⟨s0, s1⟩
                              go_simp
                              with_reducible rfl
                            rotate_left
                            · simp only [Act.put, List.setIfInBounds_toArray, List.set_cons_zero, List.set_cons_succ, i64_w, i32_w]
                              rfl
                            refine pure_ (i := 2) (N := some 91) (v := ?_) (a' := ?_) #[true, true, true, false, false, false, false, false, false] rfl rfl (any_of HT_.out (by kernel_rfl)) (fun _ _ _ h => h) (Or.inl ⟨by rfl, ?_⟩) ?_ ?_
                            rotate_left
                            · intro w'
                              go_simp
                              with_reducible rfl
                            rotate_left
                            · simp only [Act.put, List.setIfInBounds_toArray, List.set_cons_zero, List.set_cons_succ, i64_w, i32_w]
                              rfl
                            refine pure_ (i := 3) (N := some 92) (v := ?_) (a' := ?_) #[true, true, true, true, false, false, false, false, false] rfl rfl (any_of HT_.out (by kernel_rfl)) (fun _ _ _ h => h) (Or.inl ⟨by rfl, ?_⟩) ?_ ?_
                            rotate_left
                            · intro w'
                              go_simp
                              with_reducible rfl
                            rotate_left
                            · simp only [Act.put, List.setIfInBounds_toArray, List.set_cons_zero, List.set_cons_succ, i64_w, i32_w]
                              rfl
                            refine pure_ (i := 4) (N := some 93) (v := ?_) (a' := ?_) #[true, true, true, true, true, false, false, false, false] rfl rfl (any_of HT_.out (by kernel_rfl)) (fun _ _ _ h => h) (Or.inl ⟨by rfl, ?_⟩) ?_ ?_
                            rotate_left
                            · intro w'
                              go_simp
                              with_reducible rfl
                            rotate_left
                            · simp only [Act.put, List.setIfInBounds_toArray, List.set_cons_zero, List.set_cons_succ, i64_w, i32_w]
                              rfl
                            refine take_ (i := 5) (N := some 94) (v := ?_) (a' := ?_) #[true, true, true, true, true, true, false, false, false] rfl rfl (take_ofW HT_.out HW_.out (by kernel_rfl)) (fun _ _ _ h => h) (Or.inl ⟨by rfl, ?_⟩) hHeld ?_ ?_
                            rotate_left
                            · rintro w' ⟨s0, s1⟩
                              go_simp
                              with_reducible rfl
                            rotate_left
                            · simp only [Act.put, List.setIfInBounds_toArray, List.set_cons_zero, List.set_cons_succ, i64_w, i32_w]
                              rfl
                            refine pure_ (i := 6) (N := some 95) (v := ?_) (a' := ?_) #[true, true, true, true, true, true, true, false, false] rfl rfl (any_of HT_.out (by kernel_rfl)) (fun _ _ _ h => h) (Or.inl ⟨by rfl, ?_⟩) ?_ ?_
                            rotate_left
                            · intro w'
                              go_simp
                              with_reducible rfl
                            rotate_left
                            · simp only [Act.put, List.setIfInBounds_toArray, List.set_cons_zero, List.set_cons_succ, i64_w, i32_w]
                              rfl
                            refine one_ (i := 7) (N := some 96) #[true, true, true, true, true, true, true, true, false] rfl rfl (one_of HT_.out (by kernel_rfl)) (by decide) (fun K hK => ?_)
                            refine goes_ Try.func41 (by kernel_rfl) rfl #[.int .u64 a1, .int .i64 (m.length : Int)] (by rfl) rfl rfl (by (try simp only [List.map_toArray, List.map_cons, List.map_nil]); first | done | rfl | (simp only [List.length_drop, List.length_take]; rfl)) ?_
                            with_reducible refine (monticuleref18_There.calls a1 (m.length : Int) _ _ HTN.out).mono ?_
                            rintro e w7 ⟨rfl, ⟨nd2, rfl⟩⟩
                            refine ⟨_, rfl, ?_⟩
                            refine hK.out _ _ ⟨(blk_cell (blk_drewN BKgb.out _) 1).trans rfl, (blk_cell (blk_drewN BKm.out _) 0).trans rfl⟩ (fun hHeld => ?_)
                            clear hK K
                            refine norm_ (a' := ?_) ?_ ?_
                            rotate_left
                            · show Act.put _ (some 96) _ = _
                              simp only [Act.put, List.setIfInBounds_toArray, List.set_cons_zero, List.set_cons_succ, i64_w, i32_w]
                              rfl
                            have n0_ := Aside0.mk (HT.out.below (pw_below_drewN (Below.refl _ _) nd2))
                            have n1_ := Aside0.mk (blk_below BKgb.out (pw_below_drewN (Below.refl _ _) nd2))
                            have n2_ := Aside0.mk (Kd.C_below HP1.out (pw_below_drewN (Below.refl _ _) nd2))
                            have n3_ := Aside0.mk (Kd.C_below HP2.out (pw_below_drewN (Below.refl _ _) nd2))
                            have n4_ := Aside0.mk (blk_below BKgp.out (pw_below_drewN (Below.refl _ _) nd2))
                            have n5_ := Aside0.mk (blk_below BKm.out (pw_below_drewN (Below.refl _ _) nd2))
                            have n6_ := Aside0.mk (Kd.C_below HVM.out (pw_below_drewN (Below.refl _ _) nd2))
                            generalize hw_ : w6.drewN nd2 = w7 at n0_ n1_ n2_ n3_ n4_ n5_ n6_ hHeld ⊢
                            clear hw_ HT BKgb HP1 HP2 BKgp BKm HVM
                            have HT := n0_
                            have BKgb := n1_
                            have HP1 := n2_
                            have HP2 := n3_
                            have BKgp := n4_
                            have BKm := n5_
                            have HVM := n6_
                            clear n0_ n1_ n2_ n3_ n4_ n5_ n6_
                            refine pure_ (i := 8) (N := some 21) (v := ?_) (a' := ?_) #[true, true, true, true, true, true, true, true, true] rfl rfl (any_of HT_.out (by kernel_rfl)) (fun _ _ _ h => h) (Or.inl ⟨by rfl, ?_⟩) ?_ ?_
                            rotate_left
                            · intro w'
                              go_simp
                              with_reducible rfl
                            rotate_left
                            · simp only [Act.put, List.setIfInBounds_toArray, List.set_cons_zero, List.set_cons_succ, i64_w, i32_w]
                              rfl
                            refine done_ (done_of HT_.out (by kernel_rfl)) ?_
                            have HC := Aside0.mk (Below.refl w7.heap.size w7)
                            go_upto_region 20 with (first | ((with_reducible refine gate_dst (N := 22) rfl ?_); refine box_event ?hg (N := 22) ?hd (cs := #[.int .u64 0, .slice none 0 0, .slice none 0 0]) (t := 53) ?hr ?_; (case hd => rfl); (case hg => rfl); (case hr => first | (go_simp; done) | (go_simp; rfl)); intro gq hg wbgq hbox hb; have n0_ := Aside0.mk (below_step (by repeat (first | (with_reducible first | exact HC.out | apply below_alloc | apply pw_below_drewN | apply below_drew1) | exact HC.out)) hb); have n1_ := Aside0.mk (hbox); have n2_ := Aside0.mk (by rw [hg]; exact below_size (by repeat (first | (with_reducible first | exact HC.out | apply below_alloc | apply pw_below_drewN | apply below_drew1) | exact HC.out)) : w7.heap.size ≤ gq); clear HC; have HC := n0_; have BKgq := n1_; have GEgq := n2_; clear n0_ n1_ n2_; clear hb hbox hg; have hzgq0 : wbgq.cell? ⟨gq, 0, none⟩ = some (.int .u64 0) := (blk_cell BKgq.out 0).trans rfl; have hfgq0 := blk_frozen BKgq.out 0; have hzgq1 : wbgq.cell? ⟨gq, 1, none⟩ = some (.slice none 0 0) := (blk_cell BKgq.out 1).trans rfl; have hfgq1 := blk_frozen BKgq.out 1; have hzgq2 : wbgq.cell? ⟨gq, 2, none⟩ = some (.slice none 0 0) := (blk_cell BKgq.out 2).trans rfl; have hfgq2 := blk_frozen BKgq.out 2))
                            have n0_ := Aside0.mk (show (((wbgq.setCell ⟨gq, 0, none⟩ (.int .u64 0)).setCell ⟨gq, 1, none⟩ (.slice none 0 0)).setCell ⟨gq, 2, none⟩ (.slice none 0 0)).heap[gq]? = some (.cells #[.int .u64 0, .slice none 0 0, .slice none 0 0] 53 (0, 0)) from blk_put (cs := #[.int .u64 0, .slice none 0 0, .slice none 0 0]) (blk_put (cs := #[.int .u64 0, .slice none 0 0, .slice none 0 0]) (blk_put (cs := #[.int .u64 0, .slice none 0 0, .slice none 0 0]) BKgq.out 0 _ rfl) 1 _ rfl) 2 _ rfl)
                            have n1_ := Aside0.mk (show Below w7.heap.size w7 (((wbgq.setCell ⟨gq, 0, none⟩ (.int .u64 0)).setCell ⟨gq, 1, none⟩ (.slice none 0 0)).setCell ⟨gq, 2, none⟩ (.slice none 0 0)) from by repeat (first | (with_reducible first | exact HC.out | refine below_set ?_ GEgq.out) | exact HC.out))
                            have n2_ := Aside0.mk (HT.out.below n1_.out)
                            have n3_ := Aside0.mk (blk_below BKgb.out n1_.out)
                            have n4_ := Aside0.mk (Kd.C_below HP1.out n1_.out)
                            have n5_ := Aside0.mk (Kd.C_below HP2.out n1_.out)
                            have n6_ := Aside0.mk (blk_below BKgp.out n1_.out)
                            have n7_ := Aside0.mk (blk_below BKm.out n1_.out)
                            have n8_ := Aside0.mk (Kd.C_below HVM.out n1_.out)
                            clear HC BKgq GEgq HT BKgb HP1 HP2 BKgp BKm HVM hzgq0 hfgq0 hzgq1 hfgq1 hzgq2 hfgq2
                            generalize (((wbgq.setCell ⟨gq, 0, none⟩ (.int .u64 0)).setCell ⟨gq, 1, none⟩ (.slice none 0 0)).setCell ⟨gq, 2, none⟩ (.slice none 0 0)) = W9 at n0_ n2_ n3_ n4_ n5_ n6_ n7_ n8_ ⊢
                            have BKgq := n0_
                            have HT := n2_
                            have BKgb := n3_
                            have HP1 := n4_
                            have HP2 := n5_
                            have BKgp := n6_
                            have BKm := n7_
                            have HVM := n8_
                            clear n0_ n1_ n2_ n3_ n4_ n5_ n6_ n7_ n8_
                            go_wp2_with (fail)
                            obtain ⟨B1, hB1⟩ : ∃ B1 : Option Addr, B1 = none := ⟨_, rfl⟩
                            obtain ⟨B2, hB2⟩ : ∃ B2 : Option Addr, B2 = none := ⟨_, rfl⟩
                            obtain ⟨d1, hd1⟩ : ∃ d1 : Nat, d1 = 0 := ⟨_, rfl⟩
                            obtain ⟨d2, hd2⟩ : ∃ d2 : Nat, d2 = 0 := ⟨_, rfl⟩
                            have n0_ := Aside0.mk (show W9.heap[gq]? = some (.cells #[.int .u64 F0, .slice B1 F1.length d1, .slice B2 F2.length d2] 53 (0, 0)) by rw [hB1, hB2, hd1, hd2, HG0.out, HG1.out, HG2.out]; exact BKgq.out)
                            have HB1 := Aside0.mk (show Kd.C (Kd.int .u64) W9 B1 F1.length F1 by rw [hB1, HG1.out]; exact Kd.C_nil _ _)
                            have HB2 := Aside0.mk (show Kd.C (Kd.int .u8) W9 B2 F2.length F2 by rw [hB2, HG2.out]; exact Kd.C_nil _ _)
                            have LB1 := Aside0.mk (show F1.length ≤ d1 by rw [HG1.out]; exact Nat.zero_le _)
                            have LB2 := Aside0.mk (show F2.length ≤ d2 by rw [HG2.out]; exact Nat.zero_le _)
                            clear BKgq hB1 hB2 hd1 hd2 HG0 HG1 HG2 BKm HVM
                            have BKgq := n0_
                            clear n0_
                            refine start_ (n := 31) (S := fun w' => w'.cell? ⟨gb, 1, none⟩ = some (.int .u64 a1) ∧ w'.cell? ⟨gp, 0, none⟩ = some (.int .u64 F0) ∧ w'.cell? ⟨gp, 1, none⟩ = some (.slice P1 F1.length p1) ∧ w'.cell? ⟨gp, 2, none⟩ = some (.slice P2 F2.length p2) ∧ w'.cell? ⟨gq, 0, none⟩ = some (.int .u64 F0) ∧ w'.cell? ⟨gq, 1, none⟩ = some (.slice B1 F1.length d1) ∧ w'.cell? ⟨gq, 2, none⟩ = some (.slice B2 F2.length d2)) (ds := []) #[false, false, false, false, false, false, false, false, false, false, false, false, false, false, false, false, false, false, false, false, false, false, false, false, false, false, false, false, false, false, false] (by kernel_rfl) rfl rfl ⟨(blk_cell (blk_drew BKgb.out) 1).trans rfl, (blk_cell (blk_drew BKgp.out) 0).trans rfl, (blk_cell (blk_drew BKgp.out) 1).trans rfl, (blk_cell (blk_drew BKgp.out) 2).trans rfl, (blk_cell (blk_drew BKgq.out) 0).trans rfl, (blk_cell (blk_drew BKgq.out) 1).trans rfl, (blk_cell (blk_drew BKgq.out) 2).trans rfl⟩ (fun hHeld => ?_); refine with_tabW ha.tab22 ha.bits22 (fun HT_ HW_ => ?_)
                            skip
                            have n0_ := Aside0.mk (HT.out.below (below_drew1 (Below.refl _ _)))
                            have n1_ := Aside0.mk (blk_below BKgb.out (below_drew1 (Below.refl _ _)))
                            have n2_ := Aside0.mk (Kd.C_below HP1.out (below_drew1 (Below.refl _ _)))
                            have n3_ := Aside0.mk (Kd.C_below HP2.out (below_drew1 (Below.refl _ _)))
                            have n4_ := Aside0.mk (blk_below BKgp.out (below_drew1 (Below.refl _ _)))
                            have n5_ := Aside0.mk (Kd.C_below HB1.out (below_drew1 (Below.refl _ _)))
                            have n6_ := Aside0.mk (Kd.C_below HB2.out (below_drew1 (Below.refl _ _)))
                            have n7_ := Aside0.mk (blk_below BKgq.out (below_drew1 (Below.refl _ _)))
                            generalize hw_ : W9.drew = w10 at n0_ n1_ n2_ n3_ n4_ n5_ n6_ n7_ hHeld ⊢
                            clear hw_ HT BKgb HP1 HP2 BKgp HB1 HB2 BKgq
                            have HT := n0_
                            have BKgb := n1_
                            have HP1 := n2_
                            have HP2 := n3_
                            have BKgp := n4_
                            have HB1 := n5_
                            have HB2 := n6_
                            have BKgq := n7_
                            clear n0_ n1_ n2_ n3_ n4_ n5_ n6_ n7_
                            refine pure_ (i := 0) (N := some 107) (v := ?_) (a' := ?_) #[true, false, false, false, false, false, false, false, false, false, false, false, false, false, false, false, false, false, false, false, false, false, false, false, false, false, false, false, false, false, false] rfl rfl (any_of HT_.out (by kernel_rfl)) (fun _ _ _ h => h) (Or.inl ⟨by rfl, ?_⟩) ?_ ?_
                            rotate_left
                            · intro w'
                              go_simp
                              with_reducible rfl
                            rotate_left
                            · simp only [Act.put, List.setIfInBounds_toArray, List.set_cons_zero, List.set_cons_succ, i64_w, i32_w]
                              rfl
                            refine pure_ (i := 1) (N := some 108) (v := ?_) (a' := ?_) #[true, true, false, false, false, false, false, false, false, false, false, false, false, false, false, false, false, false, false, false, false, false, false, false, false, false, false, false, false, false, false] rfl rfl (any_of HT_.out (by kernel_rfl)) (fun _ _ _ h => h) (Or.inl ⟨by rfl, ?_⟩) ?_ ?_
                            rotate_left
                            · intro w'
                              go_simp
                              with_reducible rfl
                            rotate_left
                            · simp only [Act.put, List.setIfInBounds_toArray, List.set_cons_zero, List.set_cons_succ, i64_w, i32_w]
                              rfl
                            refine pure_ (i := 2) (N := some 109) (v := ?_) (a' := ?_) #[true, true, true, false, false, false, false, false, false, false, false, false, false, false, false, false, false, false, false, false, false, false, false, false, false, false, false, false, false, false, false] rfl rfl (any_of HT_.out (by kernel_rfl)) (fun _ _ _ h => h) (Or.inl ⟨by rfl, ?_⟩) ?_ ?_
                            rotate_left
                            · intro w'
                              go_simp
                              with_reducible rfl
                            rotate_left
                            · simp only [Act.put, List.setIfInBounds_toArray, List.set_cons_zero, List.set_cons_succ, i64_w, i32_w]
                              rfl
                            refine pure_ (i := 3) (N := some 110) (v := ?_) (a' := ?_) #[true, true, true, true, false, false, false, false, false, false, false, false, false, false, false, false, false, false, false, false, false, false, false, false, false, false, false, false, false, false, false] rfl rfl (any_of HT_.out (by kernel_rfl)) (fun _ _ _ h => h) (Or.inl ⟨by rfl, ?_⟩) ?_ ?_
                            rotate_left
                            · intro w'
                              go_simp
                              with_reducible rfl
                            rotate_left
                            · simp only [Act.put, List.setIfInBounds_toArray, List.set_cons_zero, List.set_cons_succ, i64_w, i32_w]
                              rfl
                            refine pure_ (i := 4) (N := some 111) (v := ?_) (a' := ?_) #[true, true, true, true, true, false, false, false, false, false, false, false, false, false, false, false, false, false, false, false, false, false, false, false, false, false, false, false, false, false, false] rfl rfl (any_of HT_.out (by kernel_rfl)) (fun _ _ _ h => h) (Or.inl ⟨by rfl, ?_⟩) ?_ ?_
                            rotate_left
                            · intro w'
                              go_simp
                              with_reducible rfl
                            rotate_left
                            · simp only [Act.put, List.setIfInBounds_toArray, List.set_cons_zero, List.set_cons_succ, i64_w, i32_w]
                              rfl
                            refine pure_ (i := 5) (N := some 112) (v := ?_) (a' := ?_) #[true, true, true, true, true, true, false, false, false, false, false, false, false, false, false, false, false, false, false, false, false, false, false, false, false, false, false, false, false, false, false] rfl rfl (any_of HT_.out (by kernel_rfl)) (fun _ _ _ h => h) (Or.inl ⟨by rfl, ?_⟩) ?_ ?_
                            rotate_left
                            · intro w'
                              go_simp
                              with_reducible rfl
                            rotate_left
                            · simp only [Act.put, List.setIfInBounds_toArray, List.set_cons_zero, List.set_cons_succ, i64_w, i32_w]
                              rfl
                            refine pure_ (i := 6) (N := some 113) (v := ?_) (a' := ?_) #[true, true, true, true, true, true, true, false, false, false, false, false, false, false, false, false, false, false, false, false, false, false, false, false, false, false, false, false, false, false, false] rfl rfl (any_of HT_.out (by kernel_rfl)) (fun _ _ _ h => h) (Or.inl ⟨by rfl, ?_⟩) ?_ ?_
                            rotate_left
                            · intro w'
                              go_simp
                              with_reducible rfl
                            rotate_left
                            · simp only [Act.put, List.setIfInBounds_toArray, List.set_cons_zero, List.set_cons_succ, i64_w, i32_w]
                              rfl
                            refine pure_ (i := 7) (N := some 114) (v := ?_) (a' := ?_) #[true, true, true, true, true, true, true, true, false, false, false, false, false, false, false, false, false, false, false, false, false, false, false, false, false, false, false, false, false, false, false] rfl rfl (any_of HT_.out (by kernel_rfl)) (fun _ _ _ h => h) (Or.inl ⟨by rfl, ?_⟩) ?_ ?_
                            rotate_left
                            · intro w'
                              go_simp
                              with_reducible rfl
                            rotate_left
                            · simp only [Act.put, List.setIfInBounds_toArray, List.set_cons_zero, List.set_cons_succ, i64_w, i32_w]
                              rfl
                            refine pure_ (i := 8) (N := some 115) (v := ?_) (a' := ?_) #[true, true, true, true, true, true, true, true, true, false, false, false, false, false, false, false, false, false, false, false, false, false, false, false, false, false, false, false, false, false, false] rfl rfl (any_of HT_.out (by kernel_rfl)) (fun _ _ _ h => h) (Or.inl ⟨by rfl, ?_⟩) ?_ ?_
                            rotate_left
                            · intro w'
                              go_simp
                              with_reducible rfl
                            rotate_left
                            · simp only [Act.put, List.setIfInBounds_toArray, List.set_cons_zero, List.set_cons_succ, i64_w, i32_w]
                              rfl
                            refine pure_ (i := 9) (N := some 116) (v := ?_) (a' := ?_) #[true, true, true, true, true, true, true, true, true, true, false, false, false, false, false, false, false, false, false, false, false, false, false, false, false, false, false, false, false, false, false] rfl rfl (any_of HT_.out (by kernel_rfl)) (fun _ _ _ h => h) (Or.inl ⟨by rfl, ?_⟩) ?_ ?_
                            rotate_left
                            · intro w'
                              go_simp
                              with_reducible rfl
                            rotate_left
                            · simp only [Act.put, List.setIfInBounds_toArray, List.set_cons_zero, List.set_cons_succ, i64_w, i32_w]
                              rfl
                            refine pure_ (i := 10) (N := some 117) (v := ?_) (a' := ?_) #[true, true, true, true, true, true, true, true, true, true, true, false, false, false, false, false, false, false, false, false, false, false, false, false, false, false, false, false, false, false, false] rfl rfl (any_of HT_.out (by kernel_rfl)) (fun _ _ _ h => h) (Or.inl ⟨by rfl, ?_⟩) ?_ ?_
                            rotate_left
                            · intro w'
                              go_simp
                              with_reducible rfl
                            rotate_left
                            · simp only [Act.put, List.setIfInBounds_toArray, List.set_cons_zero, List.set_cons_succ, i64_w, i32_w]
                              rfl
                            refine pure_ (i := 11) (N := some 118) (v := ?_) (a' := ?_) #[true, true, true, true, true, true, true, true, true, true, true, true, false, false, false, false, false, false, false, false, false, false, false, false, false, false, false, false, false, false, false] rfl rfl (any_of HT_.out (by kernel_rfl)) (fun _ _ _ h => h) (Or.inl ⟨by rfl, ?_⟩) ?_ ?_
                            rotate_left
                            · intro w'
                              go_simp
                              with_reducible rfl
                            rotate_left
                            · simp only [Act.put, List.setIfInBounds_toArray, List.set_cons_zero, List.set_cons_succ, i64_w, i32_w]
                              rfl
                            refine take_ (i := 12) (N := some 119) (v := ?_) (a' := ?_) #[true, true, true, true, true, true, true, true, true, true, true, true, true, false, false, false, false, false, false, false, false, false, false, false, false, false, false, false, false, false, false] rfl rfl (take_ofW HT_.out HW_.out (by kernel_rfl)) (fun _ _ _ h => h) (Or.inl ⟨by rfl, ?_⟩) hHeld ?_ ?_
                            rotate_left
                            · rintro w' ⟨s0, s1, s2, s3, s4, s5, s6⟩
                              go_simp
                              with_reducible rfl
                            rotate_left
                            · simp only [Act.put, List.setIfInBounds_toArray, List.set_cons_zero, List.set_cons_succ, i64_w, i32_w]
                              rfl
                            refine pure_ (i := 13) (N := some 120) (v := ?_) (a' := ?_) #[true, true, true, true, true, true, true, true, true, true, true, true, true, true, false, false, false, false, false, false, false, false, false, false, false, false, false, false, false, false, false] rfl rfl (any_of HT_.out (by kernel_rfl)) (fun _ _ _ h => h) (Or.inl ⟨by rfl, ?_⟩) ?_ ?_
                            rotate_left
                            · intro w'
                              go_simp
                              with_reducible rfl
                            rotate_left
                            · simp only [Act.put, List.setIfInBounds_toArray, List.set_cons_zero, List.set_cons_succ, i64_w, i32_w]
                              rfl
                            refine pure_ (i := 14) (N := some 121) (v := ?_) (a' := ?_) #[true, true, true, true, true, true, true, true, true, true, true, true, true, true, true, false, false, false, false, false, false, false, false, false, false, false, false, false, false, false, false] rfl rfl (any_of HT_.out (by kernel_rfl)) (fun _ _ _ h => h) (Or.inl ⟨by rfl, ?_⟩) ?_ ?_
                            rotate_left
                            · intro w'
                              go_simp
                              with_reducible rfl
                            rotate_left
                            · simp only [Act.put, List.setIfInBounds_toArray, List.set_cons_zero, List.set_cons_succ, i64_w, i32_w]
                              rfl
                            refine pure_ (i := 15) (N := some 122) (v := ?_) (a' := ?_) #[true, true, true, true, true, true, true, true, true, true, true, true, true, true, true, true, false, false, false, false, false, false, false, false, false, false, false, false, false, false, false] rfl rfl (any_of HT_.out (by kernel_rfl)) (fun _ _ _ h => h) (Or.inl ⟨by rfl, ?_⟩) ?_ ?_
                            rotate_left
                            · intro w'
                              go_simp
                              with_reducible rfl
                            rotate_left
                            · simp only [Act.put, List.setIfInBounds_toArray, List.set_cons_zero, List.set_cons_succ, i64_w, i32_w]
                              rfl
                            refine take_ (i := 16) (N := some 123) (v := ?_) (a' := ?_) #[true, true, true, true, true, true, true, true, true, true, true, true, true, true, true, true, true, false, false, false, false, false, false, false, false, false, false, false, false, false, false] rfl rfl (take_ofW HT_.out HW_.out (by kernel_rfl)) (fun _ _ _ h => h) (Or.inl ⟨by rfl, ?_⟩) hHeld ?_ ?_
                            rotate_left
                            · rintro w' ⟨s0, s1, s2, s3, s4, s5, s6⟩
                              go_simp
                              with_reducible rfl
                            rotate_left
                            · simp only [Act.put, List.setIfInBounds_toArray, List.set_cons_zero, List.set_cons_succ, i64_w, i32_w]
                              rfl
                            refine take_ (i := 17) (N := some 124) (v := ?_) (a' := ?_) #[true, true, true, true, true, true, true, true, true, true, true, true, true, true, true, true, true, true, false, false, false, false, false, false, false, false, false, false, false, false, false] rfl rfl (take_ofW HT_.out HW_.out (by kernel_rfl)) (fun _ _ _ h => h) (Or.inl ⟨by rfl, ?_⟩) hHeld ?_ ?_
                            rotate_left
                            · rintro w' ⟨s0, s1, s2, s3, s4, s5, s6⟩
                              go_simp
                              with_reducible rfl
                            rotate_left
                            · simp only [Act.put, List.setIfInBounds_toArray, List.set_cons_zero, List.set_cons_succ, i64_w, i32_w]
                              rfl
                            refine one_ (i := 18) (N := some 125) #[true, true, true, true, true, true, true, true, true, true, true, true, true, true, true, true, true, true, true, false, false, false, false, false, false, false, false, false, false, false, false] rfl rfl (one_of HT_.out (by kernel_rfl)) (by decide) (fun K hK => ?_)
                            refine goes_ Try.func49 (by kernel_rfl) rfl #[.agg #[.int .u64 F0, .slice P1 F1.length p1, .slice P2 F2.length p2], .agg #[.int .u64 F0, .slice B1 F1.length d1, .slice B2 F2.length d2]] (by rfl) rfl rfl (by (try simp only [List.map_toArray, List.map_cons, List.map_nil]); first | done | rfl | (simp only [List.length_drop, List.length_take]; rfl)) ?_
                            with_reducible refine (monticuleref18_One.calls 1100 F0 P1 p1 F1 P2 p2 F2 F0 B1 d1 F1 B2 d2 F2 true _ HP1.out LP1.out HP2.out LP2.out HB1.out LB1.out HB2.out LB2.out HONE.out).mono ?_
                            rintro e w11 ⟨rfl, hb⟩
                            have n0_ := Aside0.mk (HT.out.below hb)
                            have n1_ := Aside0.mk (blk_below BKgb.out hb)
                            have n2_ := Aside0.mk (Kd.C_below HP1.out hb)
                            have n3_ := Aside0.mk (Kd.C_below HP2.out hb)
                            have n4_ := Aside0.mk (blk_below BKgp.out hb)
                            have n5_ := Aside0.mk (Kd.C_below HB1.out hb)
                            have n6_ := Aside0.mk (Kd.C_below HB2.out hb)
                            have n7_ := Aside0.mk (blk_below BKgq.out hb)
                            clear HT BKgb HP1 HP2 BKgp HB1 HB2 BKgq
                            have HT := n0_
                            have BKgb := n1_
                            have HP1 := n2_
                            have HP2 := n3_
                            have BKgp := n4_
                            have HB1 := n5_
                            have HB2 := n6_
                            have BKgq := n7_
                            clear n0_ n1_ n2_ n3_ n4_ n5_ n6_ n7_
                            clear hb
                            refine ⟨_, rfl, ?_⟩
                            refine hK.out _ _ ⟨(blk_cell BKgb.out 1).trans rfl, (blk_cell BKgp.out 0).trans rfl, (blk_cell BKgp.out 1).trans rfl, (blk_cell BKgp.out 2).trans rfl, (blk_cell BKgq.out 0).trans rfl, (blk_cell BKgq.out 1).trans rfl, (blk_cell BKgq.out 2).trans rfl⟩ (fun hHeld => ?_)
                            clear hK K
                            refine norm_ (a' := ?_) ?_ ?_
                            rotate_left
                            · show Act.put _ (some 125) _ = _
                              simp only [Act.put, List.setIfInBounds_toArray, List.set_cons_zero, List.set_cons_succ, i64_w, i32_w]
                              rfl
                            refine pure_ (i := 19) (N := some 126) (v := ?_) (a' := ?_) #[true, true, true, true, true, true, true, true, true, true, true, true, true, true, true, true, true, true, true, true, false, false, false, false, false, false, false, false, false, false, false] rfl rfl (any_of HT_.out (by kernel_rfl)) (fun _ _ _ h => h) (Or.inl ⟨by rfl, ?_⟩) ?_ ?_
                            rotate_left
                            · intro w'
                              go_simp
                              with_reducible rfl
                            rotate_left
                            · simp only [Act.put, List.setIfInBounds_toArray, List.set_cons_zero, List.set_cons_succ, i64_w, i32_w]
                              rfl
                            refine pure_ (i := 20) (N := some 127) (v := ?_) (a' := ?_) #[true, true, true, true, true, true, true, true, true, true, true, true, true, true, true, true, true, true, true, true, true, false, false, false, false, false, false, false, false, false, false] rfl rfl (any_of HT_.out (by kernel_rfl)) (fun _ _ _ h => h) (Or.inl ⟨by rfl, ?_⟩) ?_ ?_
                            rotate_left
                            · intro w'
                              go_simp
                              with_reducible rfl
                            rotate_left
                            · simp only [Act.put, List.setIfInBounds_toArray, List.set_cons_zero, List.set_cons_succ, i64_w, i32_w]
                              rfl
                            refine pure_ (i := 21) (N := some 128) (v := ?_) (a' := ?_) #[true, true, true, true, true, true, true, true, true, true, true, true, true, true, true, true, true, true, true, true, true, true, false, false, false, false, false, false, false, false, false] rfl rfl (any_of HT_.out (by kernel_rfl)) (fun _ _ _ h => h) (Or.inl ⟨by rfl, ?_⟩) ?_ ?_
                            rotate_left
                            · intro w'
                              go_simp
                              with_reducible rfl
                            rotate_left
                            · simp only [Act.put, List.setIfInBounds_toArray, List.set_cons_zero, List.set_cons_succ, i64_w, i32_w]
                              rfl
                            refine pure_ (i := 22) (N := some 129) (v := ?_) (a' := ?_) #[true, true, true, true, true, true, true, true, true, true, true, true, true, true, true, true, true, true, true, true, true, true, true, false, false, false, false, false, false, false, false] rfl rfl (any_of HT_.out (by kernel_rfl)) (fun _ _ _ h => h) (Or.inl ⟨by rfl, ?_⟩) ?_ ?_
                            rotate_left
                            · intro w'
                              go_simp
                              with_reducible rfl
                            rotate_left
                            · simp only [Act.put, List.setIfInBounds_toArray, List.set_cons_zero, List.set_cons_succ, i64_w, i32_w]
                              rfl
                            refine pure_ (i := 23) (N := some 130) (v := ?_) (a' := ?_) #[true, true, true, true, true, true, true, true, true, true, true, true, true, true, true, true, true, true, true, true, true, true, true, true, false, false, false, false, false, false, false] rfl rfl (any_of HT_.out (by kernel_rfl)) (fun _ _ _ h => h) (Or.inl ⟨by rfl, ?_⟩) ?_ ?_
                            rotate_left
                            · intro w'
                              go_simp
                              with_reducible rfl
                            rotate_left
                            · simp only [Act.put, List.setIfInBounds_toArray, List.set_cons_zero, List.set_cons_succ, i64_w, i32_w]
                              rfl
                            refine take_ (i := 24) (N := some 131) (v := ?_) (a' := ?_) #[true, true, true, true, true, true, true, true, true, true, true, true, true, true, true, true, true, true, true, true, true, true, true, true, true, false, false, false, false, false, false] rfl rfl (take_ofW HT_.out HW_.out (by kernel_rfl)) (fun _ _ _ h => h) (Or.inl ⟨by rfl, ?_⟩) hHeld ?_ ?_
                            rotate_left
                            · rintro w' ⟨s0, s1, s2, s3, s4, s5, s6⟩
                              go_simp
                              with_reducible rfl
                            rotate_left
                            · simp only [Act.put, List.setIfInBounds_toArray, List.set_cons_zero, List.set_cons_succ, i64_w, i32_w]
                              rfl
                            refine pure_ (i := 26) (N := some 133) (v := ?_) (a' := ?_) #[true, true, true, true, true, true, true, true, true, true, true, true, true, true, true, true, true, true, true, true, true, true, true, true, true, false, true, false, false, false, false] rfl rfl (any_of HT_.out (by kernel_rfl)) (fun _ _ _ h => h) (Or.inl ⟨by rfl, ?_⟩) ?_ ?_
                            rotate_left
                            · intro w'
                              go_simp
                              with_reducible rfl
                            rotate_left
                            · simp only [Act.put, List.setIfInBounds_toArray, List.set_cons_zero, List.set_cons_succ, i64_w, i32_w]
                              rfl
                            refine take_ (i := 27) (N := some 134) (v := ?_) (a' := ?_) #[true, true, true, true, true, true, true, true, true, true, true, true, true, true, true, true, true, true, true, true, true, true, true, true, true, false, true, true, false, false, false] rfl rfl (take_ofW HT_.out HW_.out (by kernel_rfl)) (fun _ _ _ h => h) (Or.inl ⟨by rfl, ?_⟩) hHeld ?_ ?_
                            rotate_left
                            · rintro w' ⟨s0, s1, s2, s3, s4, s5, s6⟩
                              go_simp
                              with_reducible rfl
                            rotate_left
                            · simp only [Act.put, List.setIfInBounds_toArray, List.set_cons_zero, List.set_cons_succ, i64_w, i32_w]
                              rfl
                            refine pure_ (i := 28) (N := some 135) (v := ?_) (a' := ?_) #[true, true, true, true, true, true, true, true, true, true, true, true, true, true, true, true, true, true, true, true, true, true, true, true, true, false, true, true, true, false, false] rfl rfl (any_of HT_.out (by kernel_rfl)) (fun _ _ _ h => h) (Or.inl ⟨by rfl, ?_⟩) ?_ ?_
                            rotate_left
                            · intro w'
                              go_simp
                              with_reducible rfl
                            rotate_left
                            · simp only [Act.put, List.setIfInBounds_toArray, List.set_cons_zero, List.set_cons_succ, i64_w, i32_w]
                              rfl
                            refine one_ (i := 25) (N := some 132) #[true, true, true, true, true, true, true, true, true, true, true, true, true, true, true, true, true, true, true, true, true, true, true, true, true, true, true, true, true, false, false] rfl rfl (one_of HT_.out (by kernel_rfl)) (by decide) (fun K hK => ?_)
                            refine goes_ Try.func50 (by kernel_rfl) rfl #[.pointer (some ⟨g, 0, none⟩), .int .u64 a1] (by rfl) rfl rfl (by (try simp only [List.map_toArray, List.map_cons, List.map_nil]); first | done | rfl | (simp only [List.length_drop, List.length_take]; rfl)) ?_
                            with_reducible refine (heap_Size g a1 m 30 wd (usedL m) _ HT.out.heap HL5.out HAW.out.2.1).mono ?_
                            rintro e w12 ⟨rfl, ⟨nd3, rfl⟩⟩
                            rw [← HF1.out]
                            refine ⟨_, rfl, ?_⟩
                            refine hK.out _ _ ⟨(blk_cell (blk_drewN BKgb.out _) 1).trans rfl, (blk_cell (blk_drewN BKgp.out _) 0).trans rfl, (blk_cell (blk_drewN BKgp.out _) 1).trans rfl, (blk_cell (blk_drewN BKgp.out _) 2).trans rfl, (blk_cell (blk_drewN BKgq.out _) 0).trans rfl, (blk_cell (blk_drewN BKgq.out _) 1).trans rfl, (blk_cell (blk_drewN BKgq.out _) 2).trans rfl⟩ (fun hHeld => ?_)
                            clear hK K
                            refine norm_ (a' := ?_) ?_ ?_
                            rotate_left
                            · show Act.put _ (some 132) _ = _
                              simp only [Act.put, List.setIfInBounds_toArray, List.set_cons_zero, List.set_cons_succ, i64_w, i32_w]
                              rfl
                            have n0_ := Aside0.mk (HT.out.below (pw_below_drewN (Below.refl _ _) nd3))
                            have n1_ := Aside0.mk (blk_below BKgb.out (pw_below_drewN (Below.refl _ _) nd3))
                            have n2_ := Aside0.mk (Kd.C_below HP1.out (pw_below_drewN (Below.refl _ _) nd3))
                            have n3_ := Aside0.mk (Kd.C_below HP2.out (pw_below_drewN (Below.refl _ _) nd3))
                            have n4_ := Aside0.mk (blk_below BKgp.out (pw_below_drewN (Below.refl _ _) nd3))
                            have n5_ := Aside0.mk (Kd.C_below HB1.out (pw_below_drewN (Below.refl _ _) nd3))
                            have n6_ := Aside0.mk (Kd.C_below HB2.out (pw_below_drewN (Below.refl _ _) nd3))
                            have n7_ := Aside0.mk (blk_below BKgq.out (pw_below_drewN (Below.refl _ _) nd3))
                            generalize hw_ : w11.drewN nd3 = w12 at n0_ n1_ n2_ n3_ n4_ n5_ n6_ n7_ hHeld ⊢
                            clear hw_ HT BKgb HP1 HP2 BKgp HB1 HB2 BKgq
                            have HT := n0_
                            have BKgb := n1_
                            have HP1 := n2_
                            have HP2 := n3_
                            have BKgp := n4_
                            have HB1 := n5_
                            have HB2 := n6_
                            have BKgq := n7_
                            clear n0_ n1_ n2_ n3_ n4_ n5_ n6_ n7_
                            refine pure_ (i := 29) (N := some 136) (v := ?_) (a' := ?_) #[true, true, true, true, true, true, true, true, true, true, true, true, true, true, true, true, true, true, true, true, true, true, true, true, true, true, true, true, true, true, false] rfl rfl (any_of HT_.out (by kernel_rfl)) (fun _ _ _ h => h) (Or.inl ⟨by rfl, ?_⟩) ?_ ?_
                            rotate_left
                            · intro w'
                              go_simp
                              with_reducible rfl
                            rotate_left
                            · simp only [Act.put, List.setIfInBounds_toArray, List.set_cons_zero, List.set_cons_succ, i64_w, i32_w]
                              rfl
                            refine pure_ (i := 30) (N := some 137) (v := ?_) (a' := ?_) #[true, true, true, true, true, true, true, true, true, true, true, true, true, true, true, true, true, true, true, true, true, true, true, true, true, true, true, true, true, true, true] rfl rfl (any_of HT_.out (by kernel_rfl)) (fun _ _ _ h => h) (Or.inl ⟨by rfl, ?_⟩) ?_ ?_
                            rotate_left
                            · intro w'
                              go_simp
                              with_reducible rfl
                            rotate_left
                            · simp only [Act.put, List.setIfInBounds_toArray, List.set_cons_zero, List.set_cons_succ, i64_w, i32_w]
                              rfl
                            refine done_ (done_of HT_.out (by kernel_rfl)) ?_
                            go_wp2_with (fail)
                            go_meet
                            case rel => exact ⟨0, 0, m, rfl, rfl, rfl, rfl, HT, HI⟩
              case rest =>
                as_aux_lemma =>
                  clear HT HI BKgb k0
                  obtain ⟨y, z, m2, rfl, rfl, rfl, rfl, HT, HI⟩ := hcut
                  have HSM2 := Aside0.mk (HI.out.smallL (by decide))
                  have HUV := Aside0.mk (used_val m2 HSM2.out)
                  have HS2 := Aside0.mk (same_refl m2 1000 1100 (by have := HI.out.len; omega) (by omega) (fun x hx => (HI.out.small x hx).1) (by have := HI.out.len; omega))
                  obtain ⟨Am, cm, hm1, hm2, hm3⟩ := HT.out.ref
                  have BKm := Aside0.mk hm1
                  have LM := Aside0.mk hm2
                  have HVM := Aside0.mk hm3
                  clear hm1 hm2 hm3
                  go_wp2_with (fail)
                  refine start_ (n := 28) (S := fun w' => w'.cell? ⟨gr, 0, none⟩ = some (.slice Am m2.length cm)) (ds := []) #[false, false, false, false, false, false, false, false, false, false, false, false, false, false, false, false, false, false, false, false, false, false, false, false, false, false, false, false] (by kernel_rfl) rfl rfl ((blk_cell (blk_drew BKm.out) 0).trans rfl) (fun hHeld => ?_); refine with_tabW ha.tab34 ha.bits34 (fun HT_ HW_ => ?_)
                  have n0_ := Aside0.mk (HT.out.below (below_drew1 (Below.refl _ _)))
                  have n1_ := Aside0.mk (blk_drew BKm.out)
                  have n2_ := Aside0.mk (Kd.C_drew HVM.out)
                  generalize hw_ : wc.drew = w2 at n0_ n1_ n2_ hHeld ⊢
                  clear hw_ HT BKm HVM
                  have HT := n0_
                  have BKm := n1_
                  have HVM := n2_
                  clear n0_ n1_ n2_
                  refine pure_ (i := 0) (N := some 214) (v := ?_) (a' := ?_) #[true, false, false, false, false, false, false, false, false, false, false, false, false, false, false, false, false, false, false, false, false, false, false, false, false, false, false, false] rfl rfl (any_of HT_.out (by kernel_rfl)) (fun _ _ _ h => h) (Or.inl ⟨by rfl, ?_⟩) ?_ ?_
                  rotate_left
                  · intro w'
                    go_simp
                    with_reducible rfl
                  rotate_left
                  · simp only [Act.put, List.setIfInBounds_toArray, List.set_cons_zero, List.set_cons_succ, i64_w, i32_w]
                    rfl
                  refine pure_ (i := 1) (N := some 215) (v := ?_) (a' := ?_) #[true, true, false, false, false, false, false, false, false, false, false, false, false, false, false, false, false, false, false, false, false, false, false, false, false, false, false, false] rfl rfl (any_of HT_.out (by kernel_rfl)) (fun _ _ _ h => h) (Or.inl ⟨by rfl, ?_⟩) ?_ ?_
                  rotate_left
                  · intro w'
                    go_simp
                    with_reducible rfl
                  rotate_left
                  · simp only [Act.put, List.setIfInBounds_toArray, List.set_cons_zero, List.set_cons_succ, i64_w, i32_w]
                    rfl
                  refine pure_ (i := 2) (N := some 216) (v := ?_) (a' := ?_) #[true, true, true, false, false, false, false, false, false, false, false, false, false, false, false, false, false, false, false, false, false, false, false, false, false, false, false, false] rfl rfl (any_of HT_.out (by kernel_rfl)) (fun _ _ _ h => h) (Or.inl ⟨by rfl, ?_⟩) ?_ ?_
                  rotate_left
                  · intro w'
                    go_simp
                    with_reducible rfl
                  rotate_left
                  · simp only [Act.put, List.setIfInBounds_toArray, List.set_cons_zero, List.set_cons_succ, i64_w, i32_w]
                    rfl
                  refine pure_ (i := 3) (N := some 217) (v := ?_) (a' := ?_) #[true, true, true, true, false, false, false, false, false, false, false, false, false, false, false, false, false, false, false, false, false, false, false, false, false, false, false, false] rfl rfl (any_of HT_.out (by kernel_rfl)) (fun _ _ _ h => h) (Or.inl ⟨by rfl, ?_⟩) ?_ ?_
                  rotate_left
                  · intro w'
                    go_simp
                    with_reducible rfl
                  rotate_left
                  · simp only [Act.put, List.setIfInBounds_toArray, List.set_cons_zero, List.set_cons_succ, i64_w, i32_w]
                    rfl
                  refine pure_ (i := 4) (N := some 218) (v := ?_) (a' := ?_) #[true, true, true, true, true, false, false, false, false, false, false, false, false, false, false, false, false, false, false, false, false, false, false, false, false, false, false, false] rfl rfl (any_of HT_.out (by kernel_rfl)) (fun _ _ _ h => h) (Or.inl ⟨by rfl, ?_⟩) ?_ ?_
                  rotate_left
                  · intro w'
                    go_simp
                    with_reducible rfl
                  rotate_left
                  · simp only [Act.put, List.setIfInBounds_toArray, List.set_cons_zero, List.set_cons_succ, i64_w, i32_w]
                    rfl
                  refine pure_ (i := 5) (N := some 219) (v := ?_) (a' := ?_) #[true, true, true, true, true, true, false, false, false, false, false, false, false, false, false, false, false, false, false, false, false, false, false, false, false, false, false, false] rfl rfl (any_of HT_.out (by kernel_rfl)) (fun _ _ _ h => h) (Or.inl ⟨by rfl, ?_⟩) ?_ ?_
                  rotate_left
                  · intro w'
                    go_simp
                    with_reducible rfl
                  rotate_left
                  · simp only [Act.put, List.setIfInBounds_toArray, List.set_cons_zero, List.set_cons_succ, i64_w, i32_w]
                    rfl
                  refine pure_ (i := 6) (N := some 220) (v := ?_) (a' := ?_) #[true, true, true, true, true, true, true, false, false, false, false, false, false, false, false, false, false, false, false, false, false, false, false, false, false, false, false, false] rfl rfl (any_of HT_.out (by kernel_rfl)) (fun _ _ _ h => h) (Or.inl ⟨by rfl, ?_⟩) ?_ ?_
                  rotate_left
                  · intro w'
                    go_simp
                    with_reducible rfl
                  rotate_left
                  · simp only [Act.put, List.setIfInBounds_toArray, List.set_cons_zero, List.set_cons_succ, i64_w, i32_w]
                    rfl
                  refine pure_ (i := 7) (N := some 221) (v := ?_) (a' := ?_) #[true, true, true, true, true, true, true, true, false, false, false, false, false, false, false, false, false, false, false, false, false, false, false, false, false, false, false, false] rfl rfl (any_of HT_.out (by kernel_rfl)) (fun _ _ _ h => h) (Or.inl ⟨by rfl, ?_⟩) ?_ ?_
                  rotate_left
                  · intro w'
                    go_simp
                    with_reducible rfl
                  rotate_left
                  · simp only [Act.put, List.setIfInBounds_toArray, List.set_cons_zero, List.set_cons_succ, i64_w, i32_w]
                    rfl
                  refine pure_ (i := 8) (N := some 222) (v := ?_) (a' := ?_) #[true, true, true, true, true, true, true, true, true, false, false, false, false, false, false, false, false, false, false, false, false, false, false, false, false, false, false, false] rfl rfl (any_of HT_.out (by kernel_rfl)) (fun _ _ _ h => h) (Or.inl ⟨by rfl, ?_⟩) ?_ ?_
                  rotate_left
                  · intro w'
                    go_simp
                    with_reducible rfl
                  rotate_left
                  · simp only [Act.put, List.setIfInBounds_toArray, List.set_cons_zero, List.set_cons_succ, i64_w, i32_w]
                    rfl
                  refine pure_ (i := 9) (N := some 223) (v := ?_) (a' := ?_) #[true, true, true, true, true, true, true, true, true, true, false, false, false, false, false, false, false, false, false, false, false, false, false, false, false, false, false, false] rfl rfl (any_of HT_.out (by kernel_rfl)) (fun _ _ _ h => h) (Or.inl ⟨by rfl, ?_⟩) ?_ ?_
                  rotate_left
                  · intro w'
                    go_simp
                    with_reducible rfl
                  rotate_left
                  · simp only [Act.put, List.setIfInBounds_toArray, List.set_cons_zero, List.set_cons_succ, i64_w, i32_w]
                    rfl
                  refine pure_ (i := 11) (N := some 225) (v := ?_) (a' := ?_) #[true, true, true, true, true, true, true, true, true, true, false, true, false, false, false, false, false, false, false, false, false, false, false, false, false, false, false, false] rfl rfl (any_of HT_.out (by kernel_rfl)) (fun _ _ _ h => h) (Or.inl ⟨by rfl, ?_⟩) ?_ ?_
                  rotate_left
                  · intro w'
                    go_simp
                    with_reducible rfl
                  rotate_left
                  · simp only [Act.put, List.setIfInBounds_toArray, List.set_cons_zero, List.set_cons_succ, i64_w, i32_w]
                    rfl
                  refine pure_ (i := 12) (N := some 226) (v := ?_) (a' := ?_) #[true, true, true, true, true, true, true, true, true, true, false, true, true, false, false, false, false, false, false, false, false, false, false, false, false, false, false, false] rfl rfl (any_of HT_.out (by kernel_rfl)) (fun _ _ _ h => h) (Or.inl ⟨by rfl, ?_⟩) ?_ ?_
                  rotate_left
                  · intro w'
                    go_simp
                    with_reducible rfl
                  rotate_left
                  · simp only [Act.put, List.setIfInBounds_toArray, List.set_cons_zero, List.set_cons_succ, i64_w, i32_w]
                    rfl
                  refine pure_ (i := 13) (N := some 227) (v := ?_) (a' := ?_) #[true, true, true, true, true, true, true, true, true, true, false, true, true, true, false, false, false, false, false, false, false, false, false, false, false, false, false, false] rfl rfl (any_of HT_.out (by kernel_rfl)) (fun _ _ _ h => h) (Or.inl ⟨by rfl, ?_⟩) ?_ ?_
                  rotate_left
                  · intro w'
                    go_simp
                    with_reducible rfl
                  rotate_left
                  · simp only [Act.put, List.setIfInBounds_toArray, List.set_cons_zero, List.set_cons_succ, i64_w, i32_w]
                    rfl
                  refine take_ (i := 14) (N := some 228) (v := ?_) (a' := ?_) #[true, true, true, true, true, true, true, true, true, true, false, true, true, true, true, false, false, false, false, false, false, false, false, false, false, false, false, false] rfl rfl (take_ofW HT_.out HW_.out (by kernel_rfl)) (fun _ _ _ h => h) (Or.inl ⟨by rfl, ?_⟩) hHeld ?_ ?_
                  rotate_left
                  · rintro w' s0
                    go_simp
                    with_reducible rfl
                  rotate_left
                  · simp only [Act.put, List.setIfInBounds_toArray, List.set_cons_zero, List.set_cons_succ, i64_w, i32_w]
                    rfl
                  refine one_ (i := 10) (N := some 224) #[true, true, true, true, true, true, true, true, true, true, true, true, true, true, true, false, false, false, false, false, false, false, false, false, false, false, false, false] rfl rfl (one_of HT_.out (by kernel_rfl)) (by decide) (fun K hK => ?_)
                  refine goes_ Try.func18 (by kernel_rfl) rfl #[.pointer (some ⟨g, 0, none⟩)] (by rfl) rfl rfl (by (try simp only [List.map_toArray, List.map_cons, List.map_nil]); first | done | rfl | (simp only [List.length_drop, List.length_take]; rfl)) ?_
                  with_reducible refine (heap_Objects g m2 30 wd (usedL m2) _ HT.out.heap HSM2.out).mono ?_
                  rintro e w9 ⟨v, rfl, hS_, hb⟩
                  obtain ⟨AN, cN, rfl, hlN, hCN⟩ := Kd.S_reads hS_
                  have HVN := Aside0.mk hCN
                  have LN := Aside0.mk hlN
                  have n0_ := Aside0.mk (HT.out.below hb)
                  have n1_ := Aside0.mk (blk_below BKm.out hb)
                  have n2_ := Aside0.mk (Kd.C_below HVM.out hb)
                  clear HT BKm HVM
                  have HT := n0_
                  have BKm := n1_
                  have HVM := n2_
                  clear n0_ n1_ n2_
                  clear hb hS_ hCN hlN
                  refine ⟨_, rfl, ?_⟩
                  refine hK.out _ _ ((blk_cell BKm.out 0).trans rfl) (fun hHeld => ?_)
                  clear hK K
                  refine norm_ (a' := ?_) ?_ ?_
                  rotate_left
                  · show Act.put _ (some 224) _ = _
                    simp only [Act.put, List.setIfInBounds_toArray, List.set_cons_zero, List.set_cons_succ, i64_w, i32_w]
                    rfl
                  refine one_ (i := 15) (N := some 229) #[true, true, true, true, true, true, true, true, true, true, true, true, true, true, true, true, false, false, false, false, false, false, false, false, false, false, false, false] rfl rfl (one_of HT_.out (by kernel_rfl)) (by decide) (fun K hK => ?_)
                  refine goes_ Try.func17 (by kernel_rfl) rfl #[.slice AN m2.length cN, .slice Am m2.length cm] (by rfl) rfl rfl (by (try simp only [List.map_toArray, List.map_cons, List.map_nil]); first | done | rfl | (simp only [List.length_drop, List.length_take]; rfl)) ?_
                  with_reducible refine (monticuleref18_Same.calls 1100 AN cN m2 Am cm m2 _ _ HVN.out LN.out HVM.out LM.out HS2.out).mono ?_
                  rintro e w10 ⟨rfl, hb⟩
                  have n0_ := Aside0.mk (HT.out.below hb)
                  have n1_ := Aside0.mk (blk_below BKm.out hb)
                  have n2_ := Aside0.mk (Kd.C_below HVM.out hb)
                  clear HT BKm HVM
                  have HT := n0_
                  have BKm := n1_
                  have HVM := n2_
                  clear n0_ n1_ n2_
                  clear hb HVN LN
                  refine ⟨_, rfl, ?_⟩
                  refine hK.out _ _ ((blk_cell BKm.out 0).trans rfl) (fun hHeld => ?_)
                  clear hK K
                  refine norm_ (a' := ?_) ?_ ?_
                  rotate_left
                  · show Act.put _ (some 229) _ = _
                    simp only [Act.put, List.setIfInBounds_toArray, List.set_cons_zero, List.set_cons_succ, i64_w, i32_w]
                    rfl
                  refine pure_ (i := 16) (N := some 230) (v := ?_) (a' := ?_) #[true, true, true, true, true, true, true, true, true, true, true, true, true, true, true, true, true, false, false, false, false, false, false, false, false, false, false, false] rfl rfl (any_of HT_.out (by kernel_rfl)) (fun _ _ _ h => h) (Or.inl ⟨by rfl, ?_⟩) ?_ ?_
                  rotate_left
                  · intro w'
                    go_simp
                    with_reducible rfl
                  rotate_left
                  · simp only [Act.put, List.setIfInBounds_toArray, List.set_cons_zero, List.set_cons_succ, i64_w, i32_w]
                    rfl
                  refine pure_ (i := 17) (N := some 231) (v := ?_) (a' := ?_) #[true, true, true, true, true, true, true, true, true, true, true, true, true, true, true, true, true, true, false, false, false, false, false, false, false, false, false, false] rfl rfl (any_of HT_.out (by kernel_rfl)) (fun _ _ _ h => h) (Or.inl ⟨by rfl, ?_⟩) ?_ ?_
                  rotate_left
                  · intro w'
                    go_simp
                    with_reducible rfl
                  rotate_left
                  · simp only [Act.put, List.setIfInBounds_toArray, List.set_cons_zero, List.set_cons_succ, i64_w, i32_w]
                    rfl
                  refine pure_ (i := 18) (N := some 232) (v := ?_) (a' := ?_) #[true, true, true, true, true, true, true, true, true, true, true, true, true, true, true, true, true, true, true, false, false, false, false, false, false, false, false, false] rfl rfl (any_of HT_.out (by kernel_rfl)) (fun _ _ _ h => h) (Or.inl ⟨by rfl, ?_⟩) ?_ ?_
                  rotate_left
                  · intro w'
                    go_simp
                    with_reducible rfl
                  rotate_left
                  · simp only [Act.put, List.setIfInBounds_toArray, List.set_cons_zero, List.set_cons_succ, i64_w, i32_w]
                    rfl
                  refine pure_ (i := 19) (N := some 233) (v := ?_) (a' := ?_) #[true, true, true, true, true, true, true, true, true, true, true, true, true, true, true, true, true, true, true, true, false, false, false, false, false, false, false, false] rfl rfl (any_of HT_.out (by kernel_rfl)) (fun _ _ _ h => h) (Or.inl ⟨by rfl, ?_⟩) ?_ ?_
                  rotate_left
                  · intro w'
                    go_simp
                    with_reducible rfl
                  rotate_left
                  · simp only [Act.put, List.setIfInBounds_toArray, List.set_cons_zero, List.set_cons_succ, i64_w, i32_w]
                    rfl
                  refine pure_ (i := 21) (N := some 235) (v := ?_) (a' := ?_) #[true, true, true, true, true, true, true, true, true, true, true, true, true, true, true, true, true, true, true, true, false, true, false, false, false, false, false, false] rfl rfl (any_of HT_.out (by kernel_rfl)) (fun _ _ _ h => h) (Or.inl ⟨by rfl, ?_⟩) ?_ ?_
                  rotate_left
                  · intro w'
                    go_simp
                    with_reducible rfl
                  rotate_left
                  · simp only [Act.put, List.setIfInBounds_toArray, List.set_cons_zero, List.set_cons_succ, i64_w, i32_w]
                    rfl
                  refine pure_ (i := 22) (N := some 236) (v := ?_) (a' := ?_) #[true, true, true, true, true, true, true, true, true, true, true, true, true, true, true, true, true, true, true, true, false, true, true, false, false, false, false, false] rfl rfl (any_of HT_.out (by kernel_rfl)) (fun _ _ _ h => h) (Or.inl ⟨by rfl, ?_⟩) ?_ ?_
                  rotate_left
                  · intro w'
                    go_simp
                    with_reducible rfl
                  rotate_left
                  · simp only [Act.put, List.setIfInBounds_toArray, List.set_cons_zero, List.set_cons_succ, i64_w, i32_w]
                    rfl
                  refine pure_ (i := 23) (N := some 237) (v := ?_) (a' := ?_) #[true, true, true, true, true, true, true, true, true, true, true, true, true, true, true, true, true, true, true, true, false, true, true, true, false, false, false, false] rfl rfl (any_of HT_.out (by kernel_rfl)) (fun _ _ _ h => h) (Or.inl ⟨by rfl, ?_⟩) ?_ ?_
                  rotate_left
                  · intro w'
                    go_simp
                    with_reducible rfl
                  rotate_left
                  · simp only [Act.put, List.setIfInBounds_toArray, List.set_cons_zero, List.set_cons_succ, i64_w, i32_w]
                    rfl
                  refine take_ (i := 24) (N := some 238) (v := ?_) (a' := ?_) #[true, true, true, true, true, true, true, true, true, true, true, true, true, true, true, true, true, true, true, true, false, true, true, true, true, false, false, false] rfl rfl (take_ofW HT_.out HW_.out (by kernel_rfl)) (fun _ _ _ h => h) (Or.inl ⟨by rfl, ?_⟩) hHeld ?_ ?_
                  rotate_left
                  · rintro w' s0
                    go_simp
                    with_reducible rfl
                  rotate_left
                  · simp only [Act.put, List.setIfInBounds_toArray, List.set_cons_zero, List.set_cons_succ, i64_w, i32_w]
                    rfl
                  refine one_ (i := 20) (N := some 234) #[true, true, true, true, true, true, true, true, true, true, true, true, true, true, true, true, true, true, true, true, true, true, true, true, true, false, false, false] rfl rfl (one_of HT_.out (by kernel_rfl)) (by decide) (fun K hK => ?_)
                  refine goes_ Try.func24 (by kernel_rfl) rfl #[.pointer (some ⟨g, 0, none⟩)] (by rfl) rfl rfl (by (try simp only [List.map_toArray, List.map_cons, List.map_nil]); first | done | rfl | (simp only [List.length_drop, List.length_take]; rfl)) ?_
                  with_reducible refine (heap_Words g m2 30 wd (usedL m2) _ HT.out.heap).mono ?_
                  rintro e w11 ⟨rfl, ⟨nd2, rfl⟩⟩
                  refine ⟨_, rfl, ?_⟩
                  refine hK.out _ _ ((blk_cell (blk_drewN BKm.out _) 0).trans rfl) (fun hHeld => ?_)
                  clear hK K
                  refine norm_ (a' := ?_) ?_ ?_
                  rotate_left
                  · show Act.put _ (some 234) _ = _
                    simp only [Act.put, List.setIfInBounds_toArray, List.set_cons_zero, List.set_cons_succ, i64_w, i32_w]
                    rfl
                  have n0_ := Aside0.mk (HT.out.below (pw_below_drewN (Below.refl _ _) nd2))
                  have n1_ := Aside0.mk (blk_drewN BKm.out nd2)
                  have n2_ := Aside0.mk (Kd.C_drewN HVM.out nd2)
                  generalize hw_ : w10.drewN nd2 = w11 at n0_ n1_ n2_ hHeld ⊢
                  clear hw_ HT BKm HVM
                  have HT := n0_
                  have BKm := n1_
                  have HVM := n2_
                  clear n0_ n1_ n2_
                  refine one_ (i := 25) (N := some 239) #[true, true, true, true, true, true, true, true, true, true, true, true, true, true, true, true, true, true, true, true, true, true, true, true, true, true, false, false] rfl rfl (one_of HT_.out (by kernel_rfl)) (by decide) (fun K hK => ?_)
                  refine goes_ Try.func25 (by kernel_rfl) rfl #[.slice Am m2.length cm] (by rfl) rfl rfl (by (try simp only [List.map_toArray, List.map_cons, List.map_nil]); first | done | rfl | (simp only [List.length_drop, List.length_take]; rfl)) ?_
                  with_reducible refine (monticuleref18_Used.calls 10000 Am cm m2 _ _ HVM.out LM.out HUV.out).mono ?_
                  rintro e w12 ⟨rfl, hb⟩
                  have n0_ := Aside0.mk (HT.out.below hb)
                  have n1_ := Aside0.mk (blk_below BKm.out hb)
                  have n2_ := Aside0.mk (Kd.C_below HVM.out hb)
                  clear HT BKm HVM
                  have HT := n0_
                  have BKm := n1_
                  have HVM := n2_
                  clear n0_ n1_ n2_
                  clear hb
                  refine ⟨_, rfl, ?_⟩
                  refine hK.out _ _ ((blk_cell BKm.out 0).trans rfl) (fun hHeld => ?_)
                  clear hK K
                  refine norm_ (a' := ?_) ?_ ?_
                  rotate_left
                  · show Act.put _ (some 239) _ = _
                    simp only [Act.put, List.setIfInBounds_toArray, List.set_cons_zero, List.set_cons_succ, i64_w, i32_w]
                    rfl
                  refine pure_ (i := 26) (N := some 240) (v := ?_) (a' := ?_) #[true, true, true, true, true, true, true, true, true, true, true, true, true, true, true, true, true, true, true, true, true, true, true, true, true, true, true, false] rfl rfl (any_of HT_.out (by kernel_rfl)) (fun _ _ _ h => h) (Or.inl ⟨by rfl, ?_⟩) ?_ ?_
                  rotate_left
                  · intro w'
                    go_simp
                    with_reducible rfl
                  rotate_left
                  · simp only [Act.put, List.setIfInBounds_toArray, List.set_cons_zero, List.set_cons_succ, i64_w, i32_w]
                    rfl
                  refine pure_ (i := 27) (N := some 241) (v := ?_) (a' := ?_) #[true, true, true, true, true, true, true, true, true, true, true, true, true, true, true, true, true, true, true, true, true, true, true, true, true, true, true, true] rfl rfl (any_of HT_.out (by kernel_rfl)) (fun _ _ _ h => h) (Or.inl ⟨by rfl, ?_⟩) ?_ ?_
                  rotate_left
                  · intro w'
                    go_simp
                    with_reducible rfl
                  rotate_left
                  · simp only [Act.put, List.setIfInBounds_toArray, List.set_cons_zero, List.set_cons_succ, i64_w, i32_w]
                    rfl
                  refine done_ (done_of HT_.out (by kernel_rfl)) ?_
                  go_wp2_with (fail)
                  go_roundg (gk - 1)
                  case measure => have := HK.out; omega
                  case rel => exact ⟨x + 1, m2, (by first | rfl | go_num), by omega, by omega, ⟨by have := HK.out; omega⟩, ⟨HT.out.mark (by repeat (first | (with_reducible first | exact Below.refl _ _ | apply below_alloc | apply pw_below_drewN | apply below_drew1) | exact Below.refl _ _)) (fun _ h => h.elim)⟩, HI⟩
            · have c3b0 : decide (x < (L.length : Int)) = false := decide_eq_false hlt
              go_wp2_with (fail)
              go_ret
              exact ⟨rfl, HT.out.back⟩
        · have HER := Aside0.mk (show ofErr l 30 wd ≠ 0 by rw [← her]; exact hz)
          have z1 : (er == 0) = false := by simpa using hz
          have z2 : (er != 0) = true := by simpa using hz
          have HE2 := Aside0.mk her.symm
          clear her hz
          go_enter Try.func10, Try.ntmps10
          go_wp2_with (first | (go_at_call 20; (with_reducible refine (awake18 _).mono ?_); rintro e w' ⟨rfl, hb⟩; have n0_ := Aside0.mk (below_step (by repeat (first | (with_reducible first | exact HC.out | apply below_alloc | apply pw_below_drewN | apply below_drew1) | exact HC.out)) hb); clear HC; have HC := n0_; clear n0_; clear hb) | (go_at_call 13; (with_reducible refine (monticuleref18_Small.calls 100 A0 c0 l _ _ (Kd.C_below HR0.out (by repeat (first | (with_reducible first | exact HC.out | apply below_alloc | apply pw_below_drewN | apply below_drew1) | exact HC.out))) HC0.out HSM.out).mono ?_); rintro e w' ⟨rfl, ⟨nd, rfl⟩⟩) | (go_at_call 28; (with_reducible refine (monticulelaw18_small.calls 100 A1 c1 L _ _ (Kd.C_below HR1.out (by repeat (first | (with_reducible first | exact HC.out | apply below_alloc | apply pw_below_drewN | apply below_drew1) | exact HC.out))) HC1.out HSA.out).mono ?_); rintro e w' ⟨rfl, ⟨nd, rfl⟩⟩) | (go_at_call 14; (with_reducible refine (of_room A0 c0 l 30 wd _ (Kd.C_below HR0.out (by repeat (first | (with_reducible first | exact HC.out | apply below_alloc | apply pw_below_drewN | apply below_drew1) | exact HC.out))) HC0.out HS.out HW.out HO.out).mono ?_); rintro e w' ⟨hy, hn, hb⟩; obtain rfl := hn HER.out; rw [HE2.out]; have n0_ := Aside0.mk (below_step (by repeat (first | (with_reducible first | exact HC.out | apply below_alloc | apply pw_below_drewN | apply below_drew1) | exact HC.out)) hb); clear HC; have HC := n0_; clear n0_; clear hy hn hb) | (go_at_call 21; (with_reducible refine (ref_of A0 c0 l 30 wd _ (Kd.C_below HR0.out (by repeat (first | (with_reducible first | exact HC.out | apply below_alloc | apply pw_below_drewN | apply below_drew1) | exact HC.out))) HC0.out HS.out HW.out HO.out).mono ?_); rintro e w' ⟨hy, hn, hb⟩; obtain rfl := hn HER.out; rw [HE2.out]; have n0_ := Aside0.mk (below_step (by repeat (first | (with_reducible first | exact HC.out | apply below_alloc | apply pw_below_drewN | apply below_drew1) | exact HC.out)) hb); clear HC; have HC := n0_; clear n0_; clear hy hn hb))
          go_ret
          exact ⟨rfl, HC.out⟩
      · have HNR := Aside0.mk hro
        clear hro
        go_enter Try.func10, Try.ntmps10
        go_wp2_with (first | (go_at_call 20; (with_reducible refine (awake18 _).mono ?_); rintro e w' ⟨rfl, hb⟩; have n0_ := Aside0.mk (below_step (by repeat (first | (with_reducible first | exact HC.out | apply below_alloc | apply pw_below_drewN | apply below_drew1) | exact HC.out)) hb); clear HC; have HC := n0_; clear n0_; clear hb) | (go_at_call 13; (with_reducible refine (monticuleref18_Small.calls 100 A0 c0 l _ _ (Kd.C_below HR0.out (by repeat (first | (with_reducible first | exact HC.out | apply below_alloc | apply pw_below_drewN | apply below_drew1) | exact HC.out))) HC0.out HSM.out).mono ?_); rintro e w' ⟨rfl, ⟨nd, rfl⟩⟩) | (go_at_call 28; (with_reducible refine (monticulelaw18_small.calls 100 A1 c1 L _ _ (Kd.C_below HR1.out (by repeat (first | (with_reducible first | exact HC.out | apply below_alloc | apply pw_below_drewN | apply below_drew1) | exact HC.out))) HC1.out HSA.out).mono ?_); rintro e w' ⟨rfl, ⟨nd, rfl⟩⟩) | (go_at_call 14; (with_reducible refine (two_of_arg A0 c0 l 30 wd _ HNR.out).mono ?_); rintro e w' ⟨rfl, hb⟩; have n0_ := Aside0.mk (below_step (by repeat (first | (with_reducible first | exact HC.out | apply below_alloc | apply pw_below_drewN | apply below_drew1) | exact HC.out)) hb); clear HC; have HC := n0_; clear n0_; clear hb) | (go_at_call 21; (with_reducible refine (two_ref_arg A0 c0 l 30 wd _ HNR.out).mono ?_); rintro e w' ⟨rfl, hb⟩; have n0_ := Aside0.mk (below_step (by repeat (first | (with_reducible first | exact HC.out | apply below_alloc | apply pw_below_drewN | apply below_drew1) | exact HC.out)) hb); clear HC; have HC := n0_; clear n0_; clear hb))
        go_ret
        exact ⟨rfl, HC.out⟩
end Go.Proofs.Ytiokegmpooildaa.Hp
