/- DefReads, walked. -/
import Derived.Test.YtjloioalhgifbaaDoorQd
import Derived.Test.YtjloioalhgifbaaDoorPd
import Derived.Test.YtjloioalhgifbaaDoorPAllx11
import Derived.Test.YtjloioalhgifbaaDoorPAllx9
import Derived.Test.YtjloioalhgifbaaDoorPAllx5
namespace Go.Proofs.YtjloioalhgifbaaDoor.Hd
open Go.RowKit Go.Proofs.YtjloioalhgifbaaDoorW.PrintWords Go.Proofs.YtjloioalhgifbaaDoorW.PrintLast Go.Proofs.YtjloioalhgifbaaDoorW.PrintMore Go.Proofs.YtjloioalhgifbaaDoor.PAll
attribute [local go_sem] max2_int min2_int max_two min_two max_three min_three max_four min_four
set_option linter.unusedVariables false
set_option linter.unusedSimpArgs false
set_option maxHeartbeats 16000000 in
set_option maxRecDepth 100000 in
theorem open_calls (A0 : Option Addr) (c0 : Nat) (l : List Int) (w : World) (hr : Kd.C (Kd.int .u8) w A0 l.length l) (hc : l.length ≤ c0) (hl : l.length ≤ 1000000) :
    Calls Tryd.prog 39 #[.slice A0 l.length c0] w fun r w' => ∃ g w0, r = .returned (.pointer (some ⟨g, 0, none⟩)) ∧ Below w.heap.size w w0 ∧ OcR w0 w' g l 0 ∧ Below w0.heap.size w0 w' := by
  have HR := Aside0.mk hr
  have HC := Aside0.mk hc
  have HCL := Aside0.mk (show bytes_Clone.f l = some l by unfold bytes_Clone.f; rw [if_pos (by omega)])
  clear hr hc hl
  go_enter Tryd.func39, Tryd.ntmps39
  go_wp2_with (first | ((with_reducible refine gate_dst (N := 6) rfl ?_); refine box_event ?hg (N := 6) ?hd (cs := #[.slice Ad l.length cp, .int .i64 0]) (t := 70) ?hr ?_; (case hd => rfl); (case hg => rfl); (case hr => first | (go_simp; done) | (go_simp; rfl)); intro g hg w2 hbox hb; have HBX := Aside0.mk hbox; have HGX := Aside0.mk hg; have n0_ := Aside0.mk (below_step HB.out hb); clear HB hbox hb hg; have HB := n0_; clear n0_) | (go_at_call 70; (with_reducible refine (bytes_Clone.calls A0 c0 l l _ HR.out HC.out HCL.out).mono ?_); rintro er w1 ⟨vv, rfl, hO1, hb1⟩; obtain ⟨Ad, cp, rfl, hlv, hCv⟩ := Kd.R_reads hO1; have HCv := Aside0.mk hCv; have HLv := Aside0.mk hlv; have HBC := Aside0.mk hb1; have HB := Aside0.mk (Below.refl w1.heap.size w1); clear hO1 hlv hCv hb1))
  go_ret
  exact ⟨g, w1, rfl, HBC.out, ⟨Ad, cp, HBX.out, Nat.le_of_eq HGX.out.symm, HCv.out, HLv.out⟩, HB.out⟩
theorem finR_facts (d : DV) (b : List Int) (e : Int) : (finR d b e).2.2.1 = b ∧ (finR d b e).1.v.length ≤ d.v.length := by
  unfold finR
  split
  · exact ⟨rfl, Nat.zero_le _⟩
  · split
    · exact ⟨rfl, Nat.le_refl _⟩
    · exact ⟨rfl, Nat.zero_le _⟩
theorem readR_ok {bs : List Int} {e : Int} (hb : BytesOk bs) : BytesOk (readR bs e).2.2.1 ∧ (readR bs e).2.2.1.length ≤ bs.length ∧ (readR bs e).1.v.length ≤ 1000000 := by
  obtain ⟨kd, b1, e1, h0⟩ : ∃ kd b1 e1, numR bs e = (kd, b1, e1) := ⟨_, _, _, rfl⟩
  obtain ⟨f1, f2, f3, f4, f5, f6, f7⟩ := numR_facts hb h0
  by_cases k1 : kd = 1
  · obtain ⟨c, b2, e2, h1⟩ : ∃ c b2 e2, textR b1 e1 = (c, b2, e2) := ⟨_, _, _, rfl⟩
    obtain ⟨s, b3, e3, h2⟩ : ∃ s b3 e3, textR b2 e2 = (s, b3, e3) := ⟨_, _, _, rfl⟩
    obtain ⟨v, b4, e4, h3⟩ : ∃ v b4 e4, textsR b3 e3 = (v, b4, e4) := ⟨_, _, _, rfl⟩
    have o1 := textR_ok (e := e1) f1
    rw [h1] at o1
    have o2 := textR_ok (e := e2) o1.1
    rw [h2] at o2
    have o3 := textsR_facts (e := e3) o2.1
    rw [h3] at o3
    rw [readR_class h0 k1 h1 h2 h3]
    obtain ⟨q1, q2⟩ := finR_facts ⟨1, c, s, v, ⟨#[]⟩, ⟨#[]⟩⟩ b4 e4
    rw [q1]
    exact ⟨o3.1, Nat.le_trans o3.2.1 (Nat.le_trans o2.2 (Nat.le_trans o1.2 f5)), Nat.le_trans q2 o3.2.2.1⟩
  · by_cases k2 : kd = 2
    · obtain ⟨c, b2, e2, h1⟩ : ∃ c b2 e2, textR b1 e1 = (c, b2, e2) := ⟨_, _, _, rfl⟩
      obtain ⟨s, b3, e3, h2⟩ : ∃ s b3 e3, textR b2 e2 = (s, b3, e3) := ⟨_, _, _, rfl⟩
      obtain ⟨v, b4, e4, h3⟩ : ∃ v b4 e4, textR b3 e3 = (v, b4, e4) := ⟨_, _, _, rfl⟩
      have o1 := textR_ok (e := e1) f1
      rw [h1] at o1
      have o2 := textR_ok (e := e2) o1.1
      rw [h2] at o2
      have o3 := textR_ok (e := e3) o2.1
      rw [h3] at o3
      rw [readR_method h0 k2 h1 h2 h3]
      obtain ⟨q1, q2⟩ := finR_facts ⟨2, c, ⟨#[]⟩, [], s, v⟩ b4 e4
      rw [q1]
      exact ⟨o3.1, Nat.le_trans o3.2 (Nat.le_trans o2.2 (Nat.le_trans o1.2 f5)), Nat.le_trans q2 (Nat.zero_le _)⟩
    · rw [readR_else h0 k1 k2]
      obtain ⟨q1, q2⟩ := finR_facts ⟨kd, ⟨#[]⟩, ⟨#[]⟩, [], ⟨#[]⟩, ⟨#[]⟩⟩ b1 e1
      rw [q1]
      exact ⟨f1, f5, Nat.le_trans q2 (Nat.zero_le _)⟩
theorem sameD_self (kd : Int) (c s : ByteArray) (v : List ByteArray) (l t : ByteArray) : sameD kd c s v l t kd c s v l t = true := by simp [sameD]
def freads.T10 : Bool × List (List Nat × List Nat) := (true, [([], []), ([], []), ([0, 1], [0, 1]), ([2], [2]), ([3], [3]), ([3], [3]), ([4, 5, 3, 3], [3, 4, 5]), ([6, 3], [3, 6]), ([3, 7], [3, 7]), ([8, 6], [8]), ([9], [9]), ([10, 9, 9], [9, 10]), ([9], [9]), ([12, 9], [9, 12]), ([13, 9], [9, 13]), ([14, 9], [9, 14]), ([15, 9], [9, 15]), ([11, 16, 9], [9, 11, 16]), ([9, 17], [9, 17]), ([18, 11], [18]), ([19], [19]), ([20, 19, 19], [19, 20]), ([19], [19]), ([22, 19], [19, 22]), ([23, 19], [19, 23]), ([24, 19], [19, 24]), ([21, 25, 19], [19, 21, 25]), ([19, 26], [19, 26])])
def freads.B10 : List Nat := [0, 0, 3, 7, 15, 15, 63, 127, 255, 511, 1023, 2047, 1023, 5119, 13311, 29695, 62463, 131071, 262143, 524287, 1048575, 2097151, 1048575, 5242879, 13631487, 30408703, 67108863, 134217727]
theorem freads.tab10 : rtab .any (opsOf Tryd.f9 10) = freads.T10 := by kernel_rfl
theorem freads.bits10 : waitsOk freads.T10.2 freads.B10 = true := by kernel_rfl
set_option maxHeartbeats 16000000 in
set_option maxRecDepth 100000 in
theorem law_reads (k : Nat) (A0 : Option Addr) (c0 : Nat) (l : List Int) (w : World) (hr : Kd.C (Kd.int .u8) w A0 l.length l) (hc : l.length ≤ c0) (hb : BytesOk l) (hw : monticulelaw07_awake.f k = some true) :
    Calls Tryd.prog 9 #[.slice A0 l.length c0] w fun e w' => e = .returned (.bool true) ∧ Below w.heap.size w w' := by
  have hu31 := Tryd.underlying31
  have HR := Aside0.mk hr
  have HC := Aside0.mk hc
  have HBO := Aside0.mk hb
  have HW := Aside0.mk hw
  clear hr hc hb hw
  have HB := Aside0.mk (Below.refl w.heap.size w)
  by_cases c1 : 600 < l.length
  · have c1a : decide ((600 : Int) < (l.length : Int)) = true := decide_eq_true (by omega)
    go_enter Tryd.func9, Tryd.ntmps9
    go_wp2_with (first | (go_at_call 27; (with_reducible refine (monticulelaw07_awake.calls k true _ HW.out).mono ?_); rintro e wa ⟨rfl, hb_⟩; have n0_ := Aside0.mk (below_step (by repeat (first | (with_reducible first | exact HB.out | apply below_alloc | apply pw_below_drewN | apply below_drew1) | exact HB.out)) hb_); clear HB hb_; have HB := n0_; clear n0_))
    go_ret
    exact ⟨rfl, HB.out⟩
  · have c1a : decide ((600 : Int) < (l.length : Int)) = false := decide_eq_false (by omega)
    have HL := Aside0.mk (show l.length ≤ 600 by omega)
    clear c1
    go_enter Tryd.func9, Tryd.ntmps9
    go_wp2_with (first | ((with_reducible refine gate_dst (N := 23) rfl ?_); refine box_event ?hg (N := 23) ?hd (cs := #[.string (strOfNums l), .int .i64 0]) (t := 45) ?hr ?_; (case hd => rfl); (case hg => rfl); (case hr => first | (go_simp; done) | (go_simp; rfl)); intro gm hg w2 hbox hb; have n0_ := Aside0.mk (below_step HB.out hb); have n1_ := Aside0.mk (OcR.below HI.out hb); have HGMW := Aside0.mk hg; have n3_ := Aside0.mk (show g ≠ gm by have := HI.out.lt; have := HGMW.out; omega); have n4_ := Aside0.mk (show w0.heap.size ≤ gm by have := HB.out.size; have := HGMW.out; omega); have HIm := Aside0.mk (show RfR w0 w2 gm l 0 from ⟨hbox, n4_.out⟩); clear HB HI hbox hb hg hcv HGMW; have HB := n0_; have HI := n1_; have HNE := n3_; clear n0_ n1_ n3_ n4_) | (go_at_call 27; (with_reducible refine (monticulelaw07_awake.calls k true _ HW.out).mono ?_); rintro e wa ⟨rfl, hb_⟩; have n0_ := Aside0.mk (below_step (by repeat (first | (with_reducible first | exact HB.out | apply below_alloc | apply pw_below_drewN | apply below_drew1) | exact HB.out)) hb_); clear HB hb_; have HB := n0_; clear n0_) | (go_at_call 39; (with_reducible refine (open_calls A0 c0 l _ ?sideC HC.out (by have := HL.out; omega)).mono ?_); (case sideC => exact Kd.C_below HR.out (by repeat (first | (with_reducible first | exact HB.out | apply below_alloc | apply pw_below_drewN | apply below_drew1) | exact HB.out))); rintro er w1 ⟨g, w0, rfl, hb0, hI1, hB1⟩; have HI := Aside0.mk hI1; have HBW := Aside0.mk (below_step (by repeat (first | (with_reducible first | exact HB.out | apply below_alloc | apply pw_below_drewN | apply below_drew1) | exact HB.out)) hb0); clear HB; have HB := Aside0.mk hB1; have hcv := Kd.C_string (P := Tryd.prog) (c := c0) Tryd.underlying40 Tryd.underlying5 Tryd.underlying9 (Kd.C_below HR.out (below_step HBW.out HB.out)); clear hb0 hI1 hB1))
    go_loopg [5] 6 (fun kq v5 w' => ∃ (x : Int) (bx : List Int) (ex : Int), v5 = .int .i64 x ∧ 0 ≤ x ∧ x ≤ 6 ∧ Aside0 ((kq : Int) + x = 6) ∧ Aside0 (OcR w0 w' g bx ex) ∧ Aside0 (RfR w0 w' gm bx ex) ∧ Aside0 (Below w0.heap.size w0 w') ∧ Aside0 (BytesOk bx) ∧ Aside0 (bx.length ≤ 600))
    case atStart => exact ⟨0, l, 0, rfl, by omega, by omega, ⟨by omega⟩, HI, HIm, HB, HBO, HL⟩
    case round =>
      clear HB HI HIm
      obtain ⟨x, bx, ex, rfl, p0, p1, HKQ, HI, HIm, HB, HBX, HLX⟩ := hrel
      by_cases hlt : x < 6
      · have c3a : decide (x < 6) = true := decide_eq_true hlt
        have HM := Aside0.mk (show bx.length ≤ 100000 by have := HLX.out; omega)
        have HGL := Aside0.mk HI.out.lt
        have HML := Aside0.mk HIm.out.lt
        obtain ⟨⟨kd, cx, sx, v, lx, tx⟩, ev, b1, e1, hq⟩ : ∃ dv ev b1 e1, readR bx ex = (dv, ev, b1, e1) := ⟨_, _, _, _, rfl⟩
        have hok := readR_ok (e := ex) HBX.out
        rw [hq] at hok
        have HQ := Aside0.mk hq
        have HB1 := Aside0.mk hok.1
        have HL1 := Aside0.mk (show b1.length ≤ 600 from Nat.le_trans hok.2.1 HLX.out)
        obtain ⟨K_, hSM⟩ := ev_out (refDSame_val kd cx sx v lx tx kd cx sx v lx tx (by have := hok.2.2; simp only [] at this; omega))
        have hSM := hSM K_ (Nat.le_refl _)
        rw [sameD_self] at hSM
        have HSM := Aside0.mk hSM
        clear hq hok hSM
        go_upto_region 9 with (first | (go_at_call 40; (with_reducible refine (read_calls g bx ex HBX.out HM.out w0 _ ?sideI ?sideB).mono ?_); (case sideI => exact HI.out); (case sideB => exact HB.out); rintro er w3 ⟨vv, rfl, hO1, hI1, hB1, hK1⟩; rw [HQ.out] at hI1 hO1; simp only [] at hI1 hO1; rw [HQ.out]; simp only []; have HO1 := Aside0.mk (Kd.R_mono (ok' := fun k => wr.heap.size ≤ k ∧ k < w3.heap.size) (Kd.R_bound hO1) (fun k hk => ⟨hk.1, hk.2.2.1⟩)); obtain ⟨Av1, cv1, rfl, hlv, hCv⟩ := Kd.R_reads hO1; have HLV1 := Aside0.mk hlv; clear hlv hCv hO1; have n0_ := Aside0.mk hI1; have n1_ := Aside0.mk hB1; have n2_ := Aside0.mk (HIm.out.keep hK1 HNE.out.symm); have HS1 := Aside0.mk hK1.1; clear HI HIm HB hI1 hB1 hK1; have HI := n0_; have HB := n1_; have HIm := n2_; clear n0_ n1_ n2_))
        have x0_ := Aside0.mk (show (w3.alloc (Obj.cells #[.int .i64 kd, .string cx, .string sx, .slice Av1 v.length cv1, .string lx, .string tx] 31)).heap[w3.heap.size]? = some (Obj.cells #[.int .i64 kd, .string cx, .string sx, .slice Av1 v.length cv1, .string lx, .string tx] 31) from blk_new w3 _)
        have x1_ := Aside0.mk (show OcR w0 (w3.alloc (Obj.cells #[.int .i64 kd, .string cx, .string sx, .slice Av1 v.length cv1, .string lx, .string tx] 31)) g b1 e1 from OcR.alloc HI.out _)
        have x2_ := Aside0.mk (RfR.alloc HIm.out (Obj.cells #[.int .i64 kd, .string cx, .string sx, .slice Av1 v.length cv1, .string lx, .string tx] 31))
        have x3_ := Aside0.mk (show Below w0.heap.size w0 (w3.alloc (Obj.cells #[.int .i64 kd, .string cx, .string sx, .slice Av1 v.length cv1, .string lx, .string tx] 31)) from HB.out.alloc HB.out.size _)
        have x4_ := Aside0.mk (Kd.R_below HO1.out (below_alloc (Below.refl _ _) (Obj.cells #[.int .i64 kd, .string cx, .string sx, .slice Av1 v.length cv1, .string lx, .string tx] 31)))
        have x5_ := Aside0.mk (show w0.heap.size ≤ w3.heap.size from HB.out.size)
        have x6_ := Aside0.mk (show w3.heap.size < (w3.alloc (Obj.cells #[.int .i64 kd, .string cx, .string sx, .slice Av1 v.length cv1, .string lx, .string tx] 31)).heap.size from blk_lt (blk_new w3 _))
        clear HI HIm HB HO1
        generalize (w3.alloc (Obj.cells #[.int .i64 kd, .string cx, .string sx, .slice Av1 v.length cv1, .string lx, .string tx] 31)) = wa1 at x0_ x1_ x2_ x3_ x4_ x6_ ⊢
        generalize hgd : w3.heap.size = gd1 at x0_ x4_ x5_ x6_ HS1 ⊢
        clear hgd
        have HD1 := Aside0.mk (show wr.heap.size ≤ gd1 from HS1.out)
        have HNG1 := Aside0.mk (show g ≠ gd1 by have := HGL.out; have := HML.out; have := HD1.out; omega)
        have HNM1 := Aside0.mk (show gm ≠ gd1 by have := HGL.out; have := HML.out; have := HD1.out; omega)
        have y0_ := Aside0.mk (show wa1.heap[gd1]? = some (Obj.cells #[.int .i64 kd, .string cx, .string sx, .slice Av1 v.length cv1, .string lx, .string tx] 31 (0, 0)) from x0_.out)
        have y1_ := Aside0.mk x1_.out
        have y2_ := Aside0.mk x2_.out
        have y3_ := Aside0.mk (show Below w0.heap.size w0 wa1 from x3_.out)
        have y4_ := Aside0.mk x4_.out
        clear x0_ x1_ x2_ x3_ x4_ x5_ x6_
        (try generalize wa1 = we at y0_ y1_ y2_ y3_ y4_ ⊢)
        have BD1 := y0_
        have HI := y1_
        have HIm := y2_
        have HB := y3_
        have HO1 := y4_
        clear y0_ y1_ y2_ y3_ y4_
        have HDL1 := Aside0.mk (blk_lt BD1.out)
        go_upto_region 10 with (first | (go_at_call 41; (with_reducible refine (refread_calls gm bx ex HBX.out HM.out w0 _ ?sideI ?sideB).mono ?_); (case sideI => exact HIm.out); (case sideB => exact HB.out); rintro er w4 ⟨vv, rfl, hO1, hI1, hB1, hK1⟩; rw [HQ.out] at hI1 hO1; simp only [] at hI1 hO1; rw [HQ.out]; simp only []; have HO2 := Aside0.mk (Kd.R_mono (ok' := fun k => we.heap.size ≤ k ∧ k < w4.heap.size) (Kd.R_bound hO1) (fun k hk => ⟨hk.1, hk.2.2.1⟩)); obtain ⟨Av2, cv2, rfl, hlv, hCv⟩ := Kd.R_reads hO1; have HLV2 := Aside0.mk hlv; clear hlv hCv hO1; have n0_ := Aside0.mk hI1; have n1_ := Aside0.mk hB1; have n2_ := Aside0.mk (HI.out.keep hK1 HNE.out); have HS2 := Aside0.mk hK1.1; have n5_ := Aside0.mk (Kd.R_keep HO1.out hK1 (fun k hk => by have h1_ : wr.heap.size ≤ k := hk.1; have := HML.out; omega)); have n6_ := Aside0.mk (hK1.blk BD1.out (show gd1 ≠ gm by have := HML.out; have := HD1.out; omega) (by simp)); clear HO1 BD1; have HO1 := n5_; have BD1 := n6_; clear n5_ n6_; clear HI HIm HB hI1 hB1 hK1; have HIm := n0_; have HB := n1_; have HI := n2_; clear n0_ n1_ n2_))
        have x0_ := Aside0.mk (show (w4.alloc (Obj.cells #[.int .i64 kd, .string cx, .string sx, .slice Av2 v.length cv2, .string lx, .string tx] 31)).heap[w4.heap.size]? = some (Obj.cells #[.int .i64 kd, .string cx, .string sx, .slice Av2 v.length cv2, .string lx, .string tx] 31) from blk_new w4 _)
        have x1_ := Aside0.mk (show OcR w0 (w4.alloc (Obj.cells #[.int .i64 kd, .string cx, .string sx, .slice Av2 v.length cv2, .string lx, .string tx] 31)) g b1 e1 from OcR.alloc HI.out _)
        have x2_ := Aside0.mk (RfR.alloc HIm.out (Obj.cells #[.int .i64 kd, .string cx, .string sx, .slice Av2 v.length cv2, .string lx, .string tx] 31))
        have x3_ := Aside0.mk (show Below w0.heap.size w0 (w4.alloc (Obj.cells #[.int .i64 kd, .string cx, .string sx, .slice Av2 v.length cv2, .string lx, .string tx] 31)) from HB.out.alloc HB.out.size _)
        have x4_ := Aside0.mk (Kd.R_below HO2.out (below_alloc (Below.refl _ _) (Obj.cells #[.int .i64 kd, .string cx, .string sx, .slice Av2 v.length cv2, .string lx, .string tx] 31)))
        have x5_ := Aside0.mk (show w0.heap.size ≤ w4.heap.size from HB.out.size)
        have x6_ := Aside0.mk (show w4.heap.size < (w4.alloc (Obj.cells #[.int .i64 kd, .string cx, .string sx, .slice Av2 v.length cv2, .string lx, .string tx] 31)).heap.size from blk_lt (blk_new w4 _))
        have x7_ := Aside0.mk (Kd.R_below HO1.out (below_alloc (Below.refl _ _) (Obj.cells #[.int .i64 kd, .string cx, .string sx, .slice Av2 v.length cv2, .string lx, .string tx] 31)))
        have x8_ := Aside0.mk (blk_alloc BD1.out (Obj.cells #[.int .i64 kd, .string cx, .string sx, .slice Av2 v.length cv2, .string lx, .string tx] 31))
        clear HI HIm HB HO2 HO1 BD1
        generalize (w4.alloc (Obj.cells #[.int .i64 kd, .string cx, .string sx, .slice Av2 v.length cv2, .string lx, .string tx] 31)) = wa2 at x0_ x1_ x2_ x3_ x4_ x6_ x7_ x8_ ⊢
        generalize hgd : w4.heap.size = gd2 at x0_ x4_ x5_ x6_ HS2 ⊢
        clear hgd
        have HD2 := Aside0.mk (show we.heap.size ≤ gd2 from HS2.out)
        have HNG2 := Aside0.mk (show g ≠ gd2 by have := HGL.out; have := HML.out; have := HD1.out; have := HD2.out; have := HDL1.out; omega)
        have HNM2 := Aside0.mk (show gm ≠ gd2 by have := HGL.out; have := HML.out; have := HD1.out; have := HD2.out; have := HDL1.out; omega)
        have HN12 := Aside0.mk (show gd1 ≠ gd2 by have := HGL.out; have := HML.out; have := HD1.out; have := HD2.out; have := HDL1.out; omega)
        have y0_ := Aside0.mk (show wa2.heap[gd2]? = some (Obj.cells #[.int .i64 kd, .string cx, .string sx, .slice Av2 v.length cv2, .string lx, .string tx] 31 (0, 0)) from x0_.out)
        have y1_ := Aside0.mk x1_.out
        have y2_ := Aside0.mk x2_.out
        have y3_ := Aside0.mk (show Below w0.heap.size w0 wa2 from x3_.out)
        have y4_ := Aside0.mk x4_.out
        have y5_ := Aside0.mk x7_.out
        have y6_ := Aside0.mk (show wa2.heap[gd1]? = some (Obj.cells #[.int .i64 kd, .string cx, .string sx, .slice Av1 v.length cv1, .string lx, .string tx] 31 (0, 0)) from x8_.out)
        clear x0_ x1_ x2_ x3_ x4_ x5_ x6_ x7_ x8_
        (try generalize wa2 = wf at y0_ y1_ y2_ y3_ y4_ y5_ y6_ ⊢)
        have BD2 := y0_
        have HI := y1_
        have HIm := y2_
        have HB := y3_
        have HO2 := y4_
        have HO1 := y5_
        have BD1 := y6_
        clear y0_ y1_ y2_ y3_ y4_ y5_ y6_
        have HDL2 := Aside0.mk (blk_lt BD2.out)
        have hsz := strOf_size b1
        refine start_ (n := 28) (S := fun w' => w'.cell? ⟨gd1, 0, none⟩ = some (.int .i64 kd) ∧ w'.cell? ⟨gd1, 1, none⟩ = some (.string cx) ∧ w'.cell? ⟨gd1, 2, none⟩ = some (.string sx) ∧ w'.cell? ⟨gd1, 3, none⟩ = some (.slice Av1 v.length cv1) ∧ w'.cell? ⟨gd1, 4, none⟩ = some (.string lx) ∧ w'.cell? ⟨gd1, 5, none⟩ = some (.string tx) ∧ w'.cell? ⟨gd2, 0, none⟩ = some (.int .i64 kd) ∧ w'.cell? ⟨gd2, 1, none⟩ = some (.string cx) ∧ w'.cell? ⟨gd2, 2, none⟩ = some (.string sx) ∧ w'.cell? ⟨gd2, 3, none⟩ = some (.slice Av2 v.length cv2) ∧ w'.cell? ⟨gd2, 4, none⟩ = some (.string lx) ∧ w'.cell? ⟨gd2, 5, none⟩ = some (.string tx) ∧ w'.cell? ⟨gm, 0, none⟩ = some (.string (strOfNums b1)) ∧ w'.cell? ⟨gm, 1, none⟩ = some (.int .i64 e1)) (ds := []) #[false, false, false, false, false, false, false, false, false, false, false, false, false, false, false, false, false, false, false, false, false, false, false, false, false, false, false, false] (by kernel_rfl) rfl rfl ⟨((blk_cell BD1.out 0).trans rfl), ((blk_cell BD1.out 1).trans rfl), ((blk_cell BD1.out 2).trans rfl), ((blk_cell BD1.out 3).trans rfl), ((blk_cell BD1.out 4).trans rfl), ((blk_cell BD1.out 5).trans rfl), ((blk_cell BD2.out 0).trans rfl), ((blk_cell BD2.out 1).trans rfl), ((blk_cell BD2.out 2).trans rfl), ((blk_cell BD2.out 3).trans rfl), ((blk_cell BD2.out 4).trans rfl), ((blk_cell BD2.out 5).trans rfl), ((blk_cell HIm.out.1 0).trans rfl), ((blk_cell HIm.out.1 1).trans rfl)⟩ (fun hHeld => ?_); refine with_tabW freads.tab10 freads.bits10 (fun HT_ HW_ => ?_)
        have y0_ := Aside0.mk (blk_drew BD1.out)
        have y1_ := Aside0.mk (blk_drew BD2.out)
        have y2_ := Aside0.mk (OcR.drew HI.out)
        have y3_ := Aside0.mk (RfR.drew HIm.out)
        have y4_ := Aside0.mk (below_drew1 HB.out)
        have y5_ := Aside0.mk (Kd.C_below (Kd.R_reads' HO1.out).2.2 (below_drew1 (Below.refl _ _)))
        have y6_ := Aside0.mk (Kd.C_below (Kd.R_reads' HO2.out).2.2 (below_drew1 (Below.refl _ _)))
        clear BD1 BD2 HI HIm HB HO1 HO2
        generalize wf.drew = wg at y0_ y1_ y2_ y3_ y4_ y5_ y6_ hHeld ⊢
        have BD1 := y0_
        have BD2 := y1_
        have HI := y2_
        have HIm := y3_
        have HB := y4_
        have HC1 := y5_
        have HC2 := y6_
        clear y0_ y1_ y2_ y3_ y4_ y5_ y6_
        refine pure_ (i := 0) (N := some 38) (v := ?_) (a' := ?_) #[true, false, false, false, false, false, false, false, false, false, false, false, false, false, false, false, false, false, false, false, false, false, false, false, false, false, false, false] rfl rfl (any_of HT_.out (by kernel_rfl)) (fun _ _ _ h => h) (Or.inl ⟨by rfl, ?_⟩) ?_ ?_
        rotate_left
        · intro w'
          go_simp
          with_reducible rfl
        rotate_left
        · simp only [Act.put, List.setIfInBounds_toArray, List.set_cons_zero, List.set_cons_succ, i64_w, i32_w]
          rfl
        refine pure_ (i := 1) (N := some 39) (v := ?_) (a' := ?_) #[true, true, false, false, false, false, false, false, false, false, false, false, false, false, false, false, false, false, false, false, false, false, false, false, false, false, false, false] rfl rfl (any_of HT_.out (by kernel_rfl)) (fun _ _ _ h => h) (Or.inl ⟨by rfl, ?_⟩) ?_ ?_
        rotate_left
        · intro w'
          go_simp
          with_reducible rfl
        rotate_left
        · simp only [Act.put, List.setIfInBounds_toArray, List.set_cons_zero, List.set_cons_succ, i64_w, i32_w]
          rfl
        refine pure_ (i := 2) (N := some 40) (v := ?_) (a' := ?_) #[true, true, true, false, false, false, false, false, false, false, false, false, false, false, false, false, false, false, false, false, false, false, false, false, false, false, false, false] rfl rfl (any_of HT_.out (by kernel_rfl)) (fun _ _ _ h => h) (Or.inl ⟨by rfl, ?_⟩) ?_ ?_
        rotate_left
        · intro w'
          go_simp
          with_reducible rfl
        rotate_left
        · simp only [Act.put, List.setIfInBounds_toArray, List.set_cons_zero, List.set_cons_succ, i64_w, i32_w]
          rfl
        refine pure_ (i := 3) (N := some 41) (v := ?_) (a' := ?_) #[true, true, true, true, false, false, false, false, false, false, false, false, false, false, false, false, false, false, false, false, false, false, false, false, false, false, false, false] rfl rfl (any_of HT_.out (by kernel_rfl)) (fun _ _ _ h => h) (Or.inl ⟨by rfl, ?_⟩) ?_ ?_
        rotate_left
        · intro w'
          go_simp
          with_reducible rfl
        rotate_left
        · simp only [Act.put, List.setIfInBounds_toArray, List.set_cons_zero, List.set_cons_succ, i64_w, i32_w]
          rfl
        refine take_ (i := 4) (N := some 42) (v := ?_) (a' := ?_) #[true, true, true, true, true, false, false, false, false, false, false, false, false, false, false, false, false, false, false, false, false, false, false, false, false, false, false, false] rfl rfl (take_ofW HT_.out HW_.out (by kernel_rfl)) (fun _ _ _ h => h) (Or.inl ⟨by rfl, ?_⟩) hHeld ?_ ?_
        rotate_left
        · rintro w' ⟨s0, s1, s2, s3, s4, s5, s6, s7, s8, s9, s10, s11, s12, s13⟩
          go_simp
          with_reducible rfl
        rotate_left
        · simp only [Act.put, List.setIfInBounds_toArray, List.set_cons_zero, List.set_cons_succ, i64_w, i32_w]
          rfl
        refine take_ (i := 5) (N := some 43) (v := ?_) (a' := ?_) #[true, true, true, true, true, true, false, false, false, false, false, false, false, false, false, false, false, false, false, false, false, false, false, false, false, false, false, false] rfl rfl (take_ofW HT_.out HW_.out (by kernel_rfl)) (fun _ _ _ h => h) (Or.inl ⟨by rfl, ?_⟩) hHeld ?_ ?_
        rotate_left
        · rintro w' ⟨s0, s1, s2, s3, s4, s5, s6, s7, s8, s9, s10, s11, s12, s13⟩
          go_simp
          with_reducible rfl
        rotate_left
        · simp only [Act.put, List.setIfInBounds_toArray, List.set_cons_zero, List.set_cons_succ, i64_w, i32_w]
          rfl
        refine one_ (i := 6) (N := some 44) #[true, true, true, true, true, true, true, false, false, false, false, false, false, false, false, false, false, false, false, false, false, false, false, false, false, false, false, false] rfl rfl (one_of HT_.out (by kernel_rfl)) (by decide) (fun K hK => ?_)
        refine goes_ Tryd.func37 (by kernel_rfl) rfl #[.agg #[.int .i64 kd, .string cx, .string sx, .slice Av1 v.length cv1, .string lx, .string tx], .agg #[.int .i64 kd, .string cx, .string sx, .slice Av2 v.length cv2, .string lx, .string tx]] (by rfl) rfl rfl (by (try simp only [List.map_toArray, List.map_cons, List.map_nil]); first | done | rfl | (simp only [List.length_drop, List.length_take]; rfl)) ?_
        with_reducible refine (monticuleref07_Same.calls K_ kd cx sx _ _ v lx tx kd cx sx _ _ v lx tx true _ HC1.out HLV1.out HC2.out HLV2.out HSM.out).mono ?_
        rintro er w6 ⟨rfl, hb1⟩
        have y0_ := Aside0.mk (blk_below BD1.out hb1)
        have y1_ := Aside0.mk (blk_below BD2.out hb1)
        have y2_ := Aside0.mk (OcR.below HI.out hb1)
        have y3_ := Aside0.mk (RfR.below HIm.out hb1)
        have y4_ := Aside0.mk (below_step HB.out hb1)
        clear BD1 BD2 HI HIm HB
        have BD1 := y0_
        have BD2 := y1_
        have HI := y2_
        have HIm := y3_
        have HB := y4_
        clear y0_ y1_ y2_ y3_ y4_
        clear hb1 HC1 HC2
        refine ⟨_, rfl, ?_⟩
        refine hK.out _ _ ⟨((blk_cell BD1.out 0).trans rfl), ((blk_cell BD1.out 1).trans rfl), ((blk_cell BD1.out 2).trans rfl), ((blk_cell BD1.out 3).trans rfl), ((blk_cell BD1.out 4).trans rfl), ((blk_cell BD1.out 5).trans rfl), ((blk_cell BD2.out 0).trans rfl), ((blk_cell BD2.out 1).trans rfl), ((blk_cell BD2.out 2).trans rfl), ((blk_cell BD2.out 3).trans rfl), ((blk_cell BD2.out 4).trans rfl), ((blk_cell BD2.out 5).trans rfl), ((blk_cell HIm.out.1 0).trans rfl), ((blk_cell HIm.out.1 1).trans rfl)⟩ (fun hHeld => ?_)
        clear hK K
        refine norm_ (a' := ?_) ?_ ?_
        rotate_left
        · show Act.put _ (some 44) _ = _
          simp only [Act.put, List.setIfInBounds_toArray, List.set_cons_zero, List.set_cons_succ, i64_w, i32_w]
          rfl
        refine pure_ (i := 7) (N := some 45) (v := ?_) (a' := ?_) #[true, true, true, true, true, true, true, true, false, false, false, false, false, false, false, false, false, false, false, false, false, false, false, false, false, false, false, false] rfl rfl (any_of HT_.out (by kernel_rfl)) (fun _ _ _ h => h) (Or.inl ⟨by rfl, ?_⟩) ?_ ?_
        rotate_left
        · intro w'
          go_simp
          with_reducible rfl
        rotate_left
        · simp only [Act.put, List.setIfInBounds_toArray, List.set_cons_zero, List.set_cons_succ, i64_w, i32_w]
          rfl
        refine pure_ (i := 8) (N := some 46) (v := ?_) (a' := ?_) #[true, true, true, true, true, true, true, true, true, false, false, false, false, false, false, false, false, false, false, false, false, false, false, false, false, false, false, false] rfl rfl (any_of HT_.out (by kernel_rfl)) (fun _ _ _ h => h) (Or.inl ⟨by rfl, ?_⟩) ?_ ?_
        rotate_left
        · intro w'
          go_simp
          with_reducible rfl
        rotate_left
        · simp only [Act.put, List.setIfInBounds_toArray, List.set_cons_zero, List.set_cons_succ, i64_w, i32_w]
          rfl
        refine pure_ (i := 9) (N := some 47) (v := ?_) (a' := ?_) #[true, true, true, true, true, true, true, true, true, true, false, false, false, false, false, false, false, false, false, false, false, false, false, false, false, false, false, false] rfl rfl (any_of HT_.out (by kernel_rfl)) (fun _ _ _ h => h) (Or.inl ⟨by rfl, ?_⟩) ?_ ?_
        rotate_left
        · intro w'
          go_simp
          with_reducible rfl
        rotate_left
        · simp only [Act.put, List.setIfInBounds_toArray, List.set_cons_zero, List.set_cons_succ, i64_w, i32_w]
          rfl
        refine pure_ (i := 10) (N := some 48) (v := ?_) (a' := ?_) #[true, true, true, true, true, true, true, true, true, true, true, false, false, false, false, false, false, false, false, false, false, false, false, false, false, false, false, false] rfl rfl (any_of HT_.out (by kernel_rfl)) (fun _ _ _ h => h) (Or.inl ⟨by rfl, ?_⟩) ?_ ?_
        rotate_left
        · intro w'
          go_simp
          with_reducible rfl
        rotate_left
        · simp only [Act.put, List.setIfInBounds_toArray, List.set_cons_zero, List.set_cons_succ, i64_w, i32_w]
          rfl
        refine pure_ (i := 12) (N := some 50) (v := ?_) (a' := ?_) #[true, true, true, true, true, true, true, true, true, true, true, false, true, false, false, false, false, false, false, false, false, false, false, false, false, false, false, false] rfl rfl (any_of HT_.out (by kernel_rfl)) (fun _ _ _ h => h) (Or.inl ⟨by rfl, ?_⟩) ?_ ?_
        rotate_left
        · intro w'
          go_simp
          with_reducible rfl
        rotate_left
        · simp only [Act.put, List.setIfInBounds_toArray, List.set_cons_zero, List.set_cons_succ, i64_w, i32_w]
          rfl
        refine pure_ (i := 13) (N := some 51) (v := ?_) (a' := ?_) #[true, true, true, true, true, true, true, true, true, true, true, false, true, true, false, false, false, false, false, false, false, false, false, false, false, false, false, false] rfl rfl (any_of HT_.out (by kernel_rfl)) (fun _ _ _ h => h) (Or.inl ⟨by rfl, ?_⟩) ?_ ?_
        rotate_left
        · intro w'
          go_simp
          with_reducible rfl
        rotate_left
        · simp only [Act.put, List.setIfInBounds_toArray, List.set_cons_zero, List.set_cons_succ, i64_w, i32_w]
          rfl
        refine pure_ (i := 14) (N := some 52) (v := ?_) (a' := ?_) #[true, true, true, true, true, true, true, true, true, true, true, false, true, true, true, false, false, false, false, false, false, false, false, false, false, false, false, false] rfl rfl (any_of HT_.out (by kernel_rfl)) (fun _ _ _ h => h) (Or.inl ⟨by rfl, ?_⟩) ?_ ?_
        rotate_left
        · intro w'
          go_simp
          with_reducible rfl
        rotate_left
        · simp only [Act.put, List.setIfInBounds_toArray, List.set_cons_zero, List.set_cons_succ, i64_w, i32_w]
          rfl
        refine take_ (i := 15) (N := some 53) (v := ?_) (a' := ?_) #[true, true, true, true, true, true, true, true, true, true, true, false, true, true, true, true, false, false, false, false, false, false, false, false, false, false, false, false] rfl rfl (take_ofW HT_.out HW_.out (by kernel_rfl)) (fun _ _ _ h => h) (Or.inl ⟨by rfl, ?_⟩) hHeld ?_ ?_
        rotate_left
        · rintro w' ⟨s0, s1, s2, s3, s4, s5, s6, s7, s8, s9, s10, s11, s12, s13⟩
          go_simp
          with_reducible rfl
        rotate_left
        · simp only [Act.put, List.setIfInBounds_toArray, List.set_cons_zero, List.set_cons_succ, i64_w, i32_w]
          rfl
        refine pure_ (i := 16) (N := some 54) (v := ?_) (a' := ?_) #[true, true, true, true, true, true, true, true, true, true, true, false, true, true, true, true, true, false, false, false, false, false, false, false, false, false, false, false] rfl rfl (any_of HT_.out (by kernel_rfl)) (fun _ _ _ h => h) (Or.inl ⟨by rfl, ?_⟩) ?_ ?_
        rotate_left
        · intro w'
          go_simp
          with_reducible rfl
        rotate_left
        · simp only [Act.put, List.setIfInBounds_toArray, List.set_cons_zero, List.set_cons_succ, i64_w, i32_w]
          rfl
        refine one_ (i := 11) (N := some 49) #[true, true, true, true, true, true, true, true, true, true, true, true, true, true, true, true, true, false, false, false, false, false, false, false, false, false, false, false] rfl rfl (one_of HT_.out (by kernel_rfl)) (by decide) (fun K hK => ?_)
        refine goes_ Tryd.func42 (by kernel_rfl) rfl #[.pointer (some ⟨g, 0, none⟩)] (by rfl) rfl rfl (by (try simp only [List.map_toArray, List.map_cons, List.map_nil]); first | done | rfl | (simp only [List.length_drop, List.length_take]; rfl)) ?_
        with_reducible refine (left_calls g b1 e1 w0 _ HI.out HB.out).mono ?_
        rintro er w7 ⟨rfl, hI1, hB1, hK1⟩
        have y0_ := Aside0.mk (hK1.blk BD1.out HNG1.out.symm (by simp))
        have y1_ := Aside0.mk (hK1.blk BD2.out HNG2.out.symm (by simp))
        have y2_ := Aside0.mk (hI1)
        have y3_ := Aside0.mk (HIm.out.keep hK1 HNE.out.symm)
        have y4_ := Aside0.mk (hB1)
        clear BD1 BD2 HI HIm HB
        have BD1 := y0_
        have BD2 := y1_
        have HI := y2_
        have HIm := y3_
        have HB := y4_
        clear y0_ y1_ y2_ y3_ y4_
        clear hI1 hB1 hK1
        refine ⟨_, rfl, ?_⟩
        refine hK.out _ _ ⟨((blk_cell BD1.out 0).trans rfl), ((blk_cell BD1.out 1).trans rfl), ((blk_cell BD1.out 2).trans rfl), ((blk_cell BD1.out 3).trans rfl), ((blk_cell BD1.out 4).trans rfl), ((blk_cell BD1.out 5).trans rfl), ((blk_cell BD2.out 0).trans rfl), ((blk_cell BD2.out 1).trans rfl), ((blk_cell BD2.out 2).trans rfl), ((blk_cell BD2.out 3).trans rfl), ((blk_cell BD2.out 4).trans rfl), ((blk_cell BD2.out 5).trans rfl), ((blk_cell HIm.out.1 0).trans rfl), ((blk_cell HIm.out.1 1).trans rfl)⟩ (fun hHeld => ?_)
        clear hK K
        refine norm_ (a' := ?_) ?_ ?_
        rotate_left
        · show Act.put _ (some 49) _ = _
          simp only [Act.put, List.setIfInBounds_toArray, List.set_cons_zero, List.set_cons_succ, i64_w, i32_w]
          rfl
        refine pure_ (i := 17) (N := some 55) (v := ?_) (a' := ?_) #[true, true, true, true, true, true, true, true, true, true, true, true, true, true, true, true, true, true, false, false, false, false, false, false, false, false, false, false] rfl rfl (any_of HT_.out (by kernel_rfl)) (fun _ _ _ h => h) (Or.inl ⟨by rfl, ?_⟩) ?_ ?_
        rotate_left
        · intro w'
          go_simp
          with_reducible rfl
        rotate_left
        · simp only [Act.put, List.setIfInBounds_toArray, List.set_cons_zero, List.set_cons_succ, i64_w, i32_w]
          rfl
        refine pure_ (i := 18) (N := some 56) (v := ?_) (a' := ?_) #[true, true, true, true, true, true, true, true, true, true, true, true, true, true, true, true, true, true, true, false, false, false, false, false, false, false, false, false] rfl rfl (any_of HT_.out (by kernel_rfl)) (fun _ _ _ h => h) (Or.inl ⟨by rfl, ?_⟩) ?_ ?_
        rotate_left
        · intro w'
          go_simp
          with_reducible rfl
        rotate_left
        · simp only [Act.put, List.setIfInBounds_toArray, List.set_cons_zero, List.set_cons_succ, i64_w, i32_w]
          rfl
        refine pure_ (i := 19) (N := some 57) (v := ?_) (a' := ?_) #[true, true, true, true, true, true, true, true, true, true, true, true, true, true, true, true, true, true, true, true, false, false, false, false, false, false, false, false] rfl rfl (any_of HT_.out (by kernel_rfl)) (fun _ _ _ h => h) (Or.inl ⟨by rfl, ?_⟩) ?_ ?_
        rotate_left
        · intro w'
          go_simp
          with_reducible rfl
        rotate_left
        · simp only [Act.put, List.setIfInBounds_toArray, List.set_cons_zero, List.set_cons_succ, i64_w, i32_w]
          rfl
        refine pure_ (i := 20) (N := some 58) (v := ?_) (a' := ?_) #[true, true, true, true, true, true, true, true, true, true, true, true, true, true, true, true, true, true, true, true, true, false, false, false, false, false, false, false] rfl rfl (any_of HT_.out (by kernel_rfl)) (fun _ _ _ h => h) (Or.inl ⟨by rfl, ?_⟩) ?_ ?_
        rotate_left
        · intro w'
          go_simp
          with_reducible rfl
        rotate_left
        · simp only [Act.put, List.setIfInBounds_toArray, List.set_cons_zero, List.set_cons_succ, i64_w, i32_w]
          rfl
        refine pure_ (i := 22) (N := some 60) (v := ?_) (a' := ?_) #[true, true, true, true, true, true, true, true, true, true, true, true, true, true, true, true, true, true, true, true, true, false, true, false, false, false, false, false] rfl rfl (any_of HT_.out (by kernel_rfl)) (fun _ _ _ h => h) (Or.inl ⟨by rfl, ?_⟩) ?_ ?_
        rotate_left
        · intro w'
          go_simp
          with_reducible rfl
        rotate_left
        · simp only [Act.put, List.setIfInBounds_toArray, List.set_cons_zero, List.set_cons_succ, i64_w, i32_w]
          rfl
        refine pure_ (i := 23) (N := some 61) (v := ?_) (a' := ?_) #[true, true, true, true, true, true, true, true, true, true, true, true, true, true, true, true, true, true, true, true, true, false, true, true, false, false, false, false] rfl rfl (any_of HT_.out (by kernel_rfl)) (fun _ _ _ h => h) (Or.inl ⟨by rfl, ?_⟩) ?_ ?_
        rotate_left
        · intro w'
          go_simp
          with_reducible rfl
        rotate_left
        · simp only [Act.put, List.setIfInBounds_toArray, List.set_cons_zero, List.set_cons_succ, i64_w, i32_w]
          rfl
        refine pure_ (i := 24) (N := some 62) (v := ?_) (a' := ?_) #[true, true, true, true, true, true, true, true, true, true, true, true, true, true, true, true, true, true, true, true, true, false, true, true, true, false, false, false] rfl rfl (any_of HT_.out (by kernel_rfl)) (fun _ _ _ h => h) (Or.inl ⟨by rfl, ?_⟩) ?_ ?_
        rotate_left
        · intro w'
          go_simp
          with_reducible rfl
        rotate_left
        · simp only [Act.put, List.setIfInBounds_toArray, List.set_cons_zero, List.set_cons_succ, i64_w, i32_w]
          rfl
        refine take_ (i := 25) (N := some 63) (v := ?_) (a' := ?_) #[true, true, true, true, true, true, true, true, true, true, true, true, true, true, true, true, true, true, true, true, true, false, true, true, true, true, false, false] rfl rfl (take_ofW HT_.out HW_.out (by kernel_rfl)) (fun _ _ _ h => h) (Or.inl ⟨by rfl, ?_⟩) hHeld ?_ ?_
        rotate_left
        · rintro w' ⟨s0, s1, s2, s3, s4, s5, s6, s7, s8, s9, s10, s11, s12, s13⟩
          go_simp
          with_reducible rfl
        rotate_left
        · simp only [Act.put, List.setIfInBounds_toArray, List.set_cons_zero, List.set_cons_succ, i64_w, i32_w]
          rfl
        refine one_ (i := 21) (N := some 59) #[true, true, true, true, true, true, true, true, true, true, true, true, true, true, true, true, true, true, true, true, true, true, true, true, true, true, false, false] rfl rfl (one_of HT_.out (by kernel_rfl)) (by decide) (fun K hK => ?_)
        refine goes_ Tryd.func43 (by kernel_rfl) rfl #[.pointer (some ⟨g, 0, none⟩)] (by rfl) rfl rfl (by (try simp only [List.map_toArray, List.map_cons, List.map_nil]); first | done | rfl | (simp only [List.length_drop, List.length_take]; rfl)) ?_
        with_reducible refine (err_calls g b1 e1 w0 _ HI.out HB.out).mono ?_
        rintro er w8 ⟨rfl, hI1, hB1, hK1⟩
        have y0_ := Aside0.mk (hK1.blk BD1.out HNG1.out.symm (by simp))
        have y1_ := Aside0.mk (hK1.blk BD2.out HNG2.out.symm (by simp))
        have y2_ := Aside0.mk (hI1)
        have y3_ := Aside0.mk (HIm.out.keep hK1 HNE.out.symm)
        have y4_ := Aside0.mk (hB1)
        clear BD1 BD2 HI HIm HB
        have BD1 := y0_
        have BD2 := y1_
        have HI := y2_
        have HIm := y3_
        have HB := y4_
        clear y0_ y1_ y2_ y3_ y4_
        clear hI1 hB1 hK1
        refine ⟨_, rfl, ?_⟩
        refine hK.out _ _ ⟨((blk_cell BD1.out 0).trans rfl), ((blk_cell BD1.out 1).trans rfl), ((blk_cell BD1.out 2).trans rfl), ((blk_cell BD1.out 3).trans rfl), ((blk_cell BD1.out 4).trans rfl), ((blk_cell BD1.out 5).trans rfl), ((blk_cell BD2.out 0).trans rfl), ((blk_cell BD2.out 1).trans rfl), ((blk_cell BD2.out 2).trans rfl), ((blk_cell BD2.out 3).trans rfl), ((blk_cell BD2.out 4).trans rfl), ((blk_cell BD2.out 5).trans rfl), ((blk_cell HIm.out.1 0).trans rfl), ((blk_cell HIm.out.1 1).trans rfl)⟩ (fun hHeld => ?_)
        clear hK K
        refine norm_ (a' := ?_) ?_ ?_
        rotate_left
        · show Act.put _ (some 59) _ = _
          simp only [Act.put, List.setIfInBounds_toArray, List.set_cons_zero, List.set_cons_succ, i64_w, i32_w]
          rfl
        refine pure_ (i := 26) (N := some 64) (v := ?_) (a' := ?_) #[true, true, true, true, true, true, true, true, true, true, true, true, true, true, true, true, true, true, true, true, true, true, true, true, true, true, true, false] rfl rfl (any_of HT_.out (by kernel_rfl)) (fun _ _ _ h => h) (Or.inl ⟨by rfl, ?_⟩) ?_ ?_
        rotate_left
        · intro w'
          go_simp
          with_reducible rfl
        rotate_left
        · simp only [Act.put, List.setIfInBounds_toArray, List.set_cons_zero, List.set_cons_succ, i64_w, i32_w]
          rfl
        refine pure_ (i := 27) (N := some 65) (v := ?_) (a' := ?_) #[true, true, true, true, true, true, true, true, true, true, true, true, true, true, true, true, true, true, true, true, true, true, true, true, true, true, true, true] rfl rfl (any_of HT_.out (by kernel_rfl)) (fun _ _ _ h => h) (Or.inl ⟨by rfl, ?_⟩) ?_ ?_
        rotate_left
        · intro w'
          go_simp
          with_reducible rfl
        rotate_left
        · simp only [Act.put, List.setIfInBounds_toArray, List.set_cons_zero, List.set_cons_succ, i64_w, i32_w]
          rfl
        refine done_ (done_of HT_.out (by kernel_rfl)) ?_
        go_wp2_with (fail)
        go_roundg (gk - 1)
        case measure => have := HKQ.out; omega
        case rel => exact ⟨x + 1, b1, e1, rfl, by omega, by omega, ⟨by have := HKQ.out; omega⟩, HI, HIm, HB, HB1, HL1⟩
      · have c3a : decide (x < 6) = false := decide_eq_false hlt
        go_wp2_with (fail)
        go_ret
        exact ⟨rfl, below_step HBW.out HB.out⟩
end Go.Proofs.YtjloioalhgifbaaDoor.Hd
