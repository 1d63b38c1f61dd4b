/- The reference's Of: which objects make a heap, with which room, or why not. -/
import Derived.Test.YtiokegmpooildaaPw
import Derived.Test.YtiokegmpooildaaOf1
namespace Go.Proofs.Ytiokegmpooildaa.Hp
open Go.RowKit Go.Proofs.YtiokegmpooildaaW.PrintWords Go.Proofs.YtiokegmpooildaaW.PrintLast Go.Proofs.YtiokegmpooildaaW.PrintMore Go.Proofs.Ytiokegmpooildaa.PAll
set_option linter.unusedVariables false
set_option linter.unusedSimpArgs false

/-- The reference's heap, of the call's own. -/
def RefO (W : World) (g base : Nat) (ok : Nat → Prop) (l : List S53) (o wd : Int) : Prop :=
  ∃ v, W.heap[g]? = some (.cells #[v, .int .i64 o, .int .i64 wd] 46 (0, 0)) ∧ base ≤ g ∧ ok g ∧ Kd.S k53 53 W base ok v l
def RefTells (l : List S53) (o wd : Int) (w : World) (e : Ending) (w' : World) : Prop :=
  (ofErr l o wd = 0 → ∃ g, e = .returned (.tuple #[.pointer (some ⟨g, 0, none⟩), .int .i64 0]) ∧ RefO w' g w.heap.size (fun k => w.heap.size ≤ k) l o wd) ∧
  (ofErr l o wd ≠ 0 → e = .returned (.tuple #[.pointer none, .int .i64 (ofErr l o wd)])) ∧ Below w.heap.size w w'
theorem RefTells.err {l : List S53} {o wd n : Int} {w W : World} {e : Ending} (he : e = .returned (.tuple #[.pointer none, .int .i64 n])) (hn : ofErr l o wd = n) (h0 : n ≠ 0) (hb : Below w.heap.size w W) : RefTells l o wd w e W :=
  ⟨fun h => absurd (hn.symm.trans h) h0, fun _ => by rw [hn]; exact he, hb⟩
def ro.T18 : Bool × List (List Nat × List Nat) := (true, [([], []), ([], []), ([1], [1]), ([2], [2]), ([3], [3]), ([], []), ([], []), ([5, 6], [5, 6]), ([7], [7]), ([8], [8]), ([9], [9]), ([4, 10, 9], [4, 10]), ([0, 0, 1, 2, 3, 4, 5, 6, 7, 8, 9, 10, 11], [0]), ([12, 0, 1, 2, 3, 4, 5, 6, 7, 8, 9, 10, 11], [12]), ([13, 11, 11, 0, 1, 2, 3, 4, 5, 6, 7, 8, 9, 10, 11], [11, 13])])
def ro.B18 : List Nat := [0, 0, 2, 6, 14, 0, 0, 96, 224, 480, 992, 2046, 4095, 8191, 16383]
theorem ro.tab18 : rtab .any (opsOf Try.f21 18) = ro.T18 := by kernel_rfl
theorem ro.bits18 : waitsOk ro.T18.2 ro.B18 = true := by kernel_rfl
set_option maxHeartbeats 16000000 in
set_option maxRecDepth 100000 in
theorem ref_room1 (A0 : Option Addr) (c0 : Nat) (l : List S53) (o wd : Int) (w : World) (h : o < 1) :
    Calls Try.prog 21 #[.slice A0 l.length c0, .int .i64 o, .int .i64 wd] w fun e w' => e = .returned (.tuple #[.pointer none, .int .i64 2]) ∧ Below w.heap.size w w' := by
  go_enter Try.func21, Try.ntmps21
  go_wp2_with (fail)
  go_ret2
  exact ⟨rfl, by repeat (first | exact Below.refl _ _ | apply below_alloc | apply pw_below_drewN | apply below_drew1)⟩
set_option maxHeartbeats 16000000 in
set_option maxRecDepth 100000 in
theorem ref_room2 (A0 : Option Addr) (c0 : Nat) (l : List S53) (o wd : Int) (w : World) (h : 4096 < o) :
    Calls Try.prog 21 #[.slice A0 l.length c0, .int .i64 o, .int .i64 wd] w fun e w' => e = .returned (.tuple #[.pointer none, .int .i64 2]) ∧ Below w.heap.size w w' := by
  have h0 : 1 ≤ o := by omega
  go_enter Try.func21, Try.ntmps21
  go_wp2_with (fail)
  go_ret2
  exact ⟨rfl, by repeat (first | exact Below.refl _ _ | apply below_alloc | apply pw_below_drewN | apply below_drew1)⟩
set_option maxHeartbeats 16000000 in
set_option maxRecDepth 100000 in
theorem ref_room3 (A0 : Option Addr) (c0 : Nat) (l : List S53) (o wd : Int) (w : World) (h1 : 1 ≤ o) (h2 : o ≤ 4096) (h : wd < 2) :
    Calls Try.prog 21 #[.slice A0 l.length c0, .int .i64 o, .int .i64 wd] w fun e w' => e = .returned (.tuple #[.pointer none, .int .i64 2]) ∧ Below w.heap.size w w' := by
  go_enter Try.func21, Try.ntmps21
  go_wp2_with (fail)
  go_ret2
  exact ⟨rfl, by repeat (first | exact Below.refl _ _ | apply below_alloc | apply pw_below_drewN | apply below_drew1)⟩
set_option maxHeartbeats 16000000 in
set_option maxRecDepth 100000 in
theorem ref_room4 (A0 : Option Addr) (c0 : Nat) (l : List S53) (o wd : Int) (w : World) (h1 : 1 ≤ o) (h2 : o ≤ 4096) (h3 : 2 ≤ wd) (h : 1073741824 < wd) :
    Calls Try.prog 21 #[.slice A0 l.length c0, .int .i64 o, .int .i64 wd] w fun e w' => e = .returned (.tuple #[.pointer none, .int .i64 2]) ∧ Below w.heap.size w w' := by
  go_enter Try.func21, Try.ntmps21
  go_wp2_with (fail)
  go_ret2
  exact ⟨rfl, by repeat (first | exact Below.refl _ _ | apply below_alloc | apply pw_below_drewN | apply below_drew1)⟩
set_option maxHeartbeats 16000000 in
set_option maxRecDepth 100000 in
theorem ref_of (A0 : Option Addr) (c0 : Nat) (l : List S53) (o wd : Int) (w : World) (hr0 : Kd.C k53 w A0 l.length l) (hc0 : l.length ≤ c0) (hs : SmallL l) (hw : WordsL l) (hro : roomP o wd) :
    Calls Try.prog 21 #[.slice A0 l.length c0, .int .i64 o, .int .i64 wd] w (RefTells l o wd w) := by
  have hu53 := Try.underlying53
  have HS := Aside0.mk hs
  have HW := Aside0.mk hw
  have hl0 : l.length ≤ 5000 := hs.1
  have HUV := Aside0.mk (used_val l hs)
  obtain ⟨ho1, ho2, hw1, hw2⟩ := hro
  have HR := Aside0.mk hr0
  have HC0 := Aside0.mk hc0
  clear hr0 hs hw hc0
  have HC := Aside0.mk (Below.refl w.heap.size w)
  have r1 : decide (o < 1) = false := decide_eq_false (by omega)
  have r2 : decide (4096 < o) = false := decide_eq_false (by omega)
  have r3 : decide (wd < 2) = false := decide_eq_false (by omega)
  have r4 : decide (1073741824 < wd) = false := decide_eq_false (by omega)
  by_cases hov : o < (l.length : Int)
  · have hov' : decide (o < (l.length : Int)) = true := decide_eq_true hov
    go_enter Try.func21, Try.ntmps21
    go_wp2_with (fail)
    go_ret2
    exact RefTells.err rfl (by unfold ofErr; rw [if_pos (Or.inl hov)]) (by decide) HC.out
  · have hov' : decide (o < (l.length : Int)) = false := decide_eq_false hov
    obtain ⟨uu, huu⟩ : ∃ uu, uu = usedL l := ⟨_, rfl⟩
    rw [← huu] at HUV
    have HUU := Aside0.mk huu
    clear huu
    by_cases huv : wd < uu
    · have huv' : decide (wd < uu) = true := decide_eq_true huv
      go_enter Try.func21, Try.ntmps21
      go_wp2_with (first | (go_at_call 25; (with_reducible refine (monticuleref18_Used.calls 10000 A0 c0 l _ _ (Kd.C_below HR.out (by repeat (first | (with_reducible first | exact HC.out | apply below_alloc | apply pw_below_drewN | apply below_drew1) | exact HC.out))) HC0.out HUV.out).mono ?_); rintro e w' ⟨rfl, hb⟩; have n0_ := Aside0.mk (below_step (by repeat (first | (with_reducible first | exact HC.out | apply below_alloc | apply pw_below_drewN | apply below_drew1) | exact HC.out)) hb); clear HC hb; have HC := n0_; clear n0_))
      go_ret2
      exact RefTells.err rfl (by unfold ofErr; rw [if_pos (Or.inr (by rw [← HUU.out]; exact huv))]) (by decide) HC.out
    · have huv' : decide (wd < uu) = false := decide_eq_false huv
      have HERR := Aside0.mk (show ofErr l o wd = if l.any (badO l.length) = true then 61 else if l = [] then 61 else 0 from by unfold ofErr; rw [← HUU.out, if_neg (by omega)])
      by_cases hz : l.length = 0
      · have hz1 : ((l.length : Int) == 0) = true := by rw [beq_iff_eq]; omega
        have HN := Aside0.mk (List.eq_nil_of_length_eq_zero hz)
        clear hz
        go_enter Try.func21, Try.ntmps21
        go_wp2_with (first | (go_at_call 25; (with_reducible refine (monticuleref18_Used.calls 10000 A0 c0 l _ _ (Kd.C_below HR.out (by repeat (first | (with_reducible first | exact HC.out | apply below_alloc | apply pw_below_drewN | apply below_drew1) | exact HC.out))) HC0.out HUV.out).mono ?_); rintro e w' ⟨rfl, hb⟩; have n0_ := Aside0.mk (below_step (by repeat (first | (with_reducible first | exact HC.out | apply below_alloc | apply pw_below_drewN | apply below_drew1) | exact HC.out)) hb); clear HC hb; have HC := n0_; clear n0_))
        go_ret2
        refine RefTells.err rfl ?_ (by decide) HC.out
        rw [HERR.out, HN.out]
        rfl
      · have hz1 : ((l.length : Int) == 0) = false := by rw [beq_eq_false_iff_ne]; omega
        have HNE := Aside0.mk (show l ≠ [] from fun e_ => hz (by rw [e_]; rfl))
        clear hz
        go_enter Try.func21, Try.ntmps21
        go_wp2_with (first | (go_at_call 25; (with_reducible refine (monticuleref18_Used.calls 10000 A0 c0 l _ _ (Kd.C_below HR.out (by repeat (first | (with_reducible first | exact HC.out | apply below_alloc | apply pw_below_drewN | apply below_drew1) | exact HC.out))) HC0.out HUV.out).mono ?_); rintro e w' ⟨rfl, hb⟩; have n0_ := Aside0.mk (below_step (by repeat (first | (with_reducible first | exact HC.out | apply below_alloc | apply pw_below_drewN | apply below_drew1) | exact HC.out)) hb); clear HC hb; have HC := n0_; clear n0_) | ((with_reducible refine gate_dst (N := 41) rfl ?_); refine box_event ?hg (N := 41) ?hd (cs := #[.slice none 0 0, .int .i64 o, .int .i64 wd]) (t := 46) ?hr ?_; (case hd => rfl); (case hg => rfl); (case hr => first | (go_simp; done) | (go_simp; rfl)); intro gB hg wbgB hbox hb; have n0_ := Aside0.mk (below_step (by repeat (first | (with_reducible first | exact HC.out | apply below_alloc | apply pw_below_drewN | apply below_drew1) | exact HC.out)) hb); have n1_ := Aside0.mk (hbox); have n2_ := Aside0.mk (by rw [hg]; exact below_size (by repeat (first | (with_reducible first | exact HC.out | apply below_alloc | apply pw_below_drewN | apply below_drew1) | exact HC.out)) : w.heap.size ≤ gB); clear HC; have HC := n0_; have BKgB := n1_; have GEgB := n2_; clear n0_ n1_ n2_; clear hb hbox hg; have hzgB0 : wbgB.cell? ⟨gB, 0, none⟩ = some (.slice none 0 0) := (blk_cell BKgB.out 0).trans rfl; have hfgB0 := blk_frozen BKgB.out 0; have hzgB1 : wbgB.cell? ⟨gB, 1, none⟩ = some (.int .i64 o) := (blk_cell BKgB.out 1).trans rfl; have hfgB1 := blk_frozen BKgB.out 1; have hzgB2 : wbgB.cell? ⟨gB, 2, none⟩ = some (.int .i64 wd) := (blk_cell BKgB.out 2).trans rfl; have hfgB2 := blk_frozen BKgB.out 2))
        clear hzgB0 hzgB1 hzgB2 hfgB0 hfgB1 hfgB2
        go_loopg [9] l.length (fun kq v9 w' => ∃ (x : Int) (v : Value) (xs : List S53), v9 = .int .i64 x ∧ 0 ≤ x ∧ x ≤ l.length ∧ Aside0 ((kq : Int) + x = l.length) ∧ Aside0 (xs = l.take x.toNat) ∧ Aside0 ((l.take x.toNat).any (badO l.length) = false) ∧ Aside0 (Kd.S k53 53 w' w.heap.size (fun _ => True) v xs) ∧ Aside0 (w'.heap[gB]? = some (.cells #[v, .int .i64 o, .int .i64 wd] 46 (0, 0))) ∧ Aside0 (Below w.heap.size w w'))
        case atStart => exact ⟨0, .slice none 0 0, [], rfl, by omega, by omega, ⟨by simp⟩, ⟨by simp⟩, ⟨by simp⟩, ⟨Kd.S_nil _ _ _ _ _⟩, BKgB, HC⟩
        case round =>
          clear HC BKgB
          obtain ⟨x, v, xs, rfl, p0, p1, HK, HX, HAB, HO, BKgB, HB⟩ := hrel
          by_cases hlt : x < (l.length : Int)
          · have c3b0 : decide (x < (l.length : Int)) = true := decide_eq_true hlt
            obtain ⟨ad, A1, c1, A2, c2, e0, hx0, hx1, hx2, hl1, hi1, hl2, hi2⟩ := at_T53 HR.out x p0 hlt
            cases e0
            have hw0 := Aside0.mk hx0
            have hw1 := Aside0.mk hx1
            have hw2 := Aside0.mk hx2
            replace hx0 := (HB.out.cell (World.block_lt_of_cell? w _ hx0)).trans hx0
            replace hx1 := (HB.out.cell (World.block_lt_of_cell? w _ hx1)).trans hx1
            replace hx2 := (HB.out.cell (World.block_lt_of_cell? w _ hx2)).trans hx2
            have HR1 := Aside0.mk hi1
            have HL1 := Aside0.mk hl1
            have HR2 := Aside0.mk hi2
            have HL2 := Aside0.mk hl2
            clear hi1 hl1 hi2 hl2
            have q0 : (0 ≤ x) = True := eq_true p0
            have q1 : (x < (l.length : Int)) = True := eq_true hlt
            have HWx := Aside0.mk (HW.out _ (rdT_mem p0 hlt))
            have HNX := Aside0.mk (any_next (p := badO l.length) p0 hlt)
            have HSZ := Aside0.mk (HS.out.at_ x p0 hlt)
            obtain ⟨t, htt⟩ : ∃ t : Int, t = (if thereP l.length (rd_T53 l x).f0 = true then (rd_T53 l x).f0 / 2 else -1) := ⟨_, rfl⟩
            have HTH := Aside0.mk (show monticuleref18_There.f (rd_T53 l x).f0 (l.length : Int) = some t from by rw [there18 HWx.out.1 l.length hl0, htt])
            cases ht : thereP l.length (rd_T53 l x).f0 with
            | false =>
              have t1 : decide (t < 0) = true := by rw [htt, ht]; rfl
              have HT := Aside0.mk ht
              clear ht htt
              go_wp2_with (first | (go_at_call 41; (with_reducible refine (monticuleref18_There.calls (rd_T53 l x).f0 (l.length : Int) _ _ HTH.out).mono ?_); rintro e w' ⟨rfl, ⟨nd, rfl⟩⟩))
              go_ret2
              refine RefTells.err rfl ?_ (by decide) (by repeat (first | exact HB.out | apply pw_below_drewN))
              rw [HERR.out, if_pos]
              refine any_of_takeT (i := x + 1) ?_
              rw [HNX.out]
              unfold badO
              rw [HT.out]
              simp
            | true =>
              have t1 : decide (t < 0) = false := by
                rw [htt, ht, if_pos rfl]
                have := HWx.out.1
                unfold W64 at this
                exact decide_eq_false (by omega)
              have HT := Aside0.mk ht
              clear ht htt
              have hfb := HSZ.out.1
              obtain ⟨wo, rfl⟩ : ∃ wo : World, wo = wr := ⟨_, rfl⟩
              obtain ⟨ko, hko⟩ : ∃ ko : Nat, ko = gk := ⟨_, rfl⟩
              go_wp2_with (first | (go_at_call 41; (with_reducible refine (monticuleref18_There.calls (rd_T53 l x).f0 (l.length : Int) _ _ HTH.out).mono ?_); rintro e w' ⟨rfl, ⟨nd, rfl⟩⟩))
              go_loopg [10] (rd_T53 l x).f1.length (fun kq v10 w' => ∃ y : Int, v10 = .int .i64 y ∧ 0 ≤ y ∧ y ≤ ((rd_T53 l x).f1.length : Int) ∧ Aside0 ((kq : Int) + y = (rd_T53 l x).f1.length) ∧ Aside0 (((rd_T53 l x).f1.take y.toNat).any (fun a => !mayP l.length a) = false) ∧ Aside0 (Drawn0 wo w'))
              case atStart => exact ⟨0, rfl, by omega, by omega, ⟨by simp⟩, ⟨by simp⟩, ⟨by repeat (first | exact Drawn0.refl _ | apply Drawn0.step)⟩⟩
              case round =>
                obtain ⟨y, rfl, y0, y1, HKy, HNy, HD⟩ := hrel
                obtain ⟨nr, hnr⟩ := HD.out.out
                subst hnr
                by_cases hly : y < ((rd_T53 l x).f1.length : Int)
                · have d3b0 : decide (y < ((rd_T53 l x).f1.length : Int)) = true := decide_eq_true hly
                  obtain ⟨bd, e1, hy0⟩ := Kd.at_int (Kd.C_below HR1.out HB.out) y y0 hly
                  cases e1
                  have qy0 : (0 ≤ y) = True := eq_true y0
                  have qy1 : (y < ((rd_T53 l x).f1.length : Int)) = True := eq_true hly
                  have HMW := Aside0.mk (HWx.out.2 _ (rd_mem y0 hly))
                  have HNXy := Aside0.mk (any_take_next (p := fun a => !mayP l.length a) y0 hly)
                  cases hp : mayP l.length (rd (rd_T53 l x).f1 y) with
                  | false =>
                    have HMY := Aside0.mk (show monticuleref18_May.f (rd (rd_T53 l x).f1 y) (l.length : Int) = some false from by rw [may18 HMW.out l.length hl0, hp])
                    have HP := Aside0.mk hp
                    clear hp
                    go_wp2_with (first | (go_at_call 59; (with_reducible refine (monticuleref18_May.calls (rd (rd_T53 l x).f1 y) (l.length : Int) _ _ HMY.out).mono ?_); rintro e w' ⟨rfl, ⟨nd2, rfl⟩⟩))
                    go_ret2
                    refine RefTells.err rfl ?_ (by decide) (by repeat (first | exact HB.out | apply pw_below_drewN))
                    rw [HERR.out, if_pos]
                    refine any_of_takeT (i := x + 1) ?_
                    rw [HNX.out]
                    unfold badO
                    have hany : ((rd_T53 l x).f1.any fun a => !mayP l.length a) = true := by
                      refine any_of_take (i := y + 1) ?_
                      rw [HNXy.out, HP.out]
                      simp
                    rw [hany]
                    simp
                  | true =>
                    have HMY := Aside0.mk (show monticuleref18_May.f (rd (rd_T53 l x).f1 y) (l.length : Int) = some true from by rw [may18 HMW.out l.length hl0, hp])
                    have HP := Aside0.mk hp
                    clear hp
                    go_wp2_with (first | (go_at_call 59; (with_reducible refine (monticuleref18_May.calls (rd (rd_T53 l x).f1 y) (l.length : Int) _ _ HMY.out).mono ?_); rintro e w' ⟨rfl, ⟨nd2, rfl⟩⟩))
                    go_roundg (gk - 1)
                    case measure => have := HKy.out; omega
                    case rel => exact ⟨y + 1, (by first | rfl | go_num), by omega, by omega, ⟨by have := HKy.out; omega⟩, ⟨by rw [HNXy.out, HNy.out, HP.out]; rfl⟩, ⟨by repeat (first | exact Drawn0.refl _ | apply Drawn0.step)⟩⟩
                · have d3b0 : decide (y < ((rd_T53 l x).f1.length : Int)) = false := decide_eq_false hly
                  have HEy : (rd_T53 l x).f1.take y.toNat = (rd_T53 l x).f1 := List.take_of_length_le (by omega)
                  rw [HEy] at HNy
                  clear HEy
                  go_wp2_with (fail)
                  obtain ⟨Av, cv, ev⟩ := Kd.S_slice HO.out
                  subst ev
                  have n0_ := Aside0.mk (blk_drewN BKgB.out nr)
                  have n1_ := Aside0.mk (Kd.S_drewN HO.out nr)
                  have n2_ := Aside0.mk (pw_below_drewN HB.out nr)
                  have n3_ := Aside0.mk (show (wo.drewN nr).cell? (ad.add (x.toNat * 3)) = some (.int .u64 (rd_T53 l x).f0) from hx0)
                  have n4_ := Aside0.mk (show (wo.drewN nr).cell? ⟨(ad.add (x.toNat * 3)).block, (ad.add (x.toNat * 3)).off + 1, none⟩ = some (.slice A1 (rd_T53 l x).f1.length c1) from hx1)
                  have n5_ := Aside0.mk (show (wo.drewN nr).cell? ⟨(ad.add (x.toNat * 3)).block, (ad.add (x.toNat * 3)).off + 2, none⟩ = some (.slice A2 (rd_T53 l x).f2.length c2) from hx2)
                  generalize hw_ : wo.drewN nr = w2 at n0_ n1_ n2_ n3_ n4_ n5_ ⊢
                  clear hw_ BKgB HO HB hx0 hx1 hx2
                  have BKgB := n0_
                  have HO := n1_
                  have HB := n2_
                  have hx0 := n3_
                  have hx1 := n4_
                  have hx2 := n5_
                  clear n0_ n1_ n2_ n3_ n4_ n5_
                  refine start_ (n := 15) (S := fun w' => w'.cell? ⟨gB, 0, none⟩ = some (.slice Av xs.length cv) ∧ w'.cell? (ad.add (x.toNat * 3)) = some (.int .u64 (rd_T53 l x).f0) ∧ w'.cell? ⟨(ad.add (x.toNat * 3)).block, (ad.add (x.toNat * 3)).off + 1, none⟩ = some (.slice A1 (rd_T53 l x).f1.length c1) ∧ w'.cell? ⟨(ad.add (x.toNat * 3)).block, (ad.add (x.toNat * 3)).off + 2, none⟩ = some (.slice A2 (rd_T53 l x).f2.length c2)) (ds := [14]) #[false, false, false, false, false, false, false, false, false, false, false, false, false, false, false] (by kernel_rfl) rfl rfl ⟨((blk_cell (blk_drew BKgB.out) 0).trans rfl), hx0.out, hx1.out, hx2.out⟩ (fun hHeld => ?_); refine with_tabW ro.tab18 ro.bits18 (fun HT_ HW_ => ?_)
                  have n0_ := Aside0.mk (blk_drew BKgB.out)
                  have n1_ := Aside0.mk (Kd.S_drew HO.out)
                  have n2_ := Aside0.mk (below_drew1 HB.out)
                  have n3_ := Aside0.mk (show w2.drew.cell? (ad.add (x.toNat * 3)) = some (.int .u64 (rd_T53 l x).f0) from hx0.out)
                  have n4_ := Aside0.mk (show w2.drew.cell? ⟨(ad.add (x.toNat * 3)).block, (ad.add (x.toNat * 3)).off + 1, none⟩ = some (.slice A1 (rd_T53 l x).f1.length c1) from hx1.out)
                  have n5_ := Aside0.mk (show w2.drew.cell? ⟨(ad.add (x.toNat * 3)).block, (ad.add (x.toNat * 3)).off + 2, none⟩ = some (.slice A2 (rd_T53 l x).f2.length c2) from hx2.out)
                  generalize hw_ : w2.drew = w3 at n0_ n1_ n2_ n3_ n4_ n5_ hHeld ⊢
                  clear hw_ BKgB HO HB hx0 hx1 hx2
                  have BKgB := n0_
                  have HO := n1_
                  have HB := n2_
                  have hx0 := n3_
                  have hx1 := n4_
                  have hx2 := n5_
                  clear n0_ n1_ n2_ n3_ n4_ n5_
                  have HC := Aside0.mk (Below.refl w3.heap.size w3)
                  have HCL := Aside0.mk (clone18 _ HSZ.out)
                  refine pure_ (i := 0) (N := some 79) (v := ?_) (a' := ?_) #[true, false, false, false, false, false, false, false, false, false, false, false, false, false, false] rfl rfl (any_of HT_.out (by kernel_rfl)) (fun _ _ _ h => h) (Or.inl ⟨by rfl, ?_⟩) ?_ ?_
                  rotate_left
                  · intro w'
                    go_simp
                    with_reducible rfl
                  rotate_left
                  · simp only [Act.put, List.setIfInBounds_toArray, List.set_cons_zero, List.set_cons_succ, i64_w, i32_w]
                    rfl
                  refine pure_ (i := 1) (N := some 80) (v := ?_) (a' := ?_) #[true, true, false, false, false, false, false, false, false, false, false, false, false, false, false] rfl rfl (any_of HT_.out (by kernel_rfl)) (fun _ _ _ h => h) (Or.inl ⟨by rfl, ?_⟩) ?_ ?_
                  rotate_left
                  · intro w'
                    go_simp
                    with_reducible rfl
                  rotate_left
                  · simp only [Act.put, List.setIfInBounds_toArray, List.set_cons_zero, List.set_cons_succ, i64_w, i32_w]
                    rfl
                  refine pure_ (i := 2) (N := some 81) (v := ?_) (a' := ?_) #[true, true, true, false, false, false, false, false, false, false, false, false, false, false, false] rfl rfl (any_of HT_.out (by kernel_rfl)) (fun _ _ _ h => h) (Or.inl ⟨by rfl, ?_⟩) ?_ ?_
                  rotate_left
                  · intro w'
                    go_simp
                    with_reducible rfl
                  rotate_left
                  · simp only [Act.put, List.setIfInBounds_toArray, List.set_cons_zero, List.set_cons_succ, i64_w, i32_w]
                    rfl
                  refine pure_ (i := 3) (N := some 82) (v := ?_) (a' := ?_) #[true, true, true, true, false, false, false, false, false, false, false, false, false, false, false] rfl rfl (any_of HT_.out (by kernel_rfl)) (fun _ _ _ h => h) (Or.inl ⟨by rfl, ?_⟩) ?_ ?_
                  rotate_left
                  · intro w'
                    go_simp
                    with_reducible rfl
                  rotate_left
                  · simp only [Act.put, List.setIfInBounds_toArray, List.set_cons_zero, List.set_cons_succ, i64_w, i32_w]
                    rfl
                  refine pure_ (i := 5) (N := some 84) (v := ?_) (a' := ?_) #[true, true, true, true, false, true, false, false, false, false, false, false, false, false, false] rfl rfl (any_of HT_.out (by kernel_rfl)) (fun _ _ _ h => h) (Or.inl ⟨by rfl, ?_⟩) ?_ ?_
                  rotate_left
                  · intro w'
                    go_simp
                    with_reducible rfl
                  rotate_left
                  · simp only [Act.put, List.setIfInBounds_toArray, List.set_cons_zero, List.set_cons_succ, i64_w, i32_w]
                    rfl
                  refine pure_ (i := 6) (N := some 85) (v := ?_) (a' := ?_) #[true, true, true, true, false, true, true, false, false, false, false, false, false, false, false] rfl rfl (any_of HT_.out (by kernel_rfl)) (fun _ _ _ h => h) (Or.inl ⟨by rfl, ?_⟩) ?_ ?_
                  rotate_left
                  · intro w'
                    go_simp
                    with_reducible rfl
                  rotate_left
                  · simp only [Act.put, List.setIfInBounds_toArray, List.set_cons_zero, List.set_cons_succ, i64_w, i32_w]
                    rfl
                  refine pure_ (i := 7) (N := some 86) (v := ?_) (a' := ?_) #[true, true, true, true, false, true, true, true, false, false, false, false, false, false, false] rfl rfl (any_of HT_.out (by kernel_rfl)) (fun _ _ _ h => h) (Or.inl ⟨by rfl, ?_⟩) ?_ ?_
                  rotate_left
                  · intro w'
                    go_simp
                    with_reducible rfl
                  rotate_left
                  · simp only [Act.put, List.setIfInBounds_toArray, List.set_cons_zero, List.set_cons_succ, i64_w, i32_w]
                    rfl
                  refine take_ (i := 4) (N := some 83) (v := ?_) (a' := ?_) #[true, true, true, true, true, true, true, true, false, false, false, false, false, false, false] rfl rfl (take_ofW HT_.out HW_.out (by kernel_rfl)) (fun _ _ _ h => h) (Or.inl ⟨by rfl, ?_⟩) hHeld ?_ ?_
                  rotate_left
                  · rintro w' ⟨s0, s1, s2, s3⟩
                    go_simp
                    with_reducible rfl
                  rotate_left
                  · simp only [Act.put, List.setIfInBounds_toArray, List.set_cons_zero, List.set_cons_succ, i64_w, i32_w]
                    rfl
                  refine take_ (i := 8) (N := some 87) (v := ?_) (a' := ?_) #[true, true, true, true, true, true, true, true, true, false, false, false, false, false, false] rfl rfl (take_ofW HT_.out HW_.out (by kernel_rfl)) (fun _ _ _ h => h) (Or.inl ⟨by rfl, ?_⟩) hHeld ?_ ?_
                  rotate_left
                  · rintro w' ⟨s0, s1, s2, s3⟩
                    go_simp
                    with_reducible rfl
                  rotate_left
                  · simp only [Act.put, List.setIfInBounds_toArray, List.set_cons_zero, List.set_cons_succ, i64_w, i32_w]
                    rfl
                  refine one_ (i := 9) (N := some 88) #[true, true, true, true, true, true, true, true, true, true, false, false, false, false, false] rfl rfl (one_of HT_.out (by kernel_rfl)) (by decide) (fun K hK => ?_)
                  refine goes_ Try.func60 (by kernel_rfl) rfl #[.agg #[.int .u64 ((rd_T53 l x).f0), .slice A1 ((rd_T53 l x).f1).length c1, .slice A2 ((rd_T53 l x).f2).length c2]] (by rfl) rfl rfl (by (try simp only [List.map_toArray, List.map_cons, List.map_nil]); first | done | rfl | (simp only [List.length_drop, List.length_take]; rfl)) ?_
                  with_reducible refine (monticuleref18_Clone.calls _ _ _ ((rd_T53 l x).f1) _ _ ((rd_T53 l x).f2) _ _ _ _ ?side1 ?side2 ?side3 ?side4 HCL.out).mono ?_
                  (case side1 => exact Kd.C_below HR1.out (below_step HB.out HC.out))
                  (case side2 => exact HL1.out)
                  (case side3 => exact Kd.C_below HR2.out (below_step HB.out HC.out))
                  (case side4 => exact HL2.out)
                  rintro e w9 ⟨v1, v2, rfl, ho1_, ho2_, hb⟩
                  have n0_ := Aside0.mk (row_new ho1_ HC.out.size HB.out.size)
                  have n1_ := Aside0.mk (row_new ho2_ HC.out.size HB.out.size)
                  have n2_ := Aside0.mk (below_step HC.out hb)
                  have n4_ := Aside0.mk (blk_below BKgB.out hb)
                  clear HC BKgB
                  have HO1 := n0_
                  have HO2 := n1_
                  have HC := n2_
                  have BKgB := n4_
                  clear n0_ n1_ n2_ n4_
                  clear ho1_ ho2_ hb
                  obtain ⟨Ao1, co1, eo1⟩ := Kd.R_slice HO1.out
                  subst eo1
                  obtain ⟨Ao2, co2, eo2⟩ := Kd.R_slice HO2.out
                  subst eo2
                  refine ⟨_, rfl, ?_⟩
                  refine hK.out _ _ ⟨((blk_cell BKgB.out 0).trans rfl), ((HC.out.cell (World.block_lt_of_cell? w3 _ hx0.out)).trans hx0.out), ((HC.out.cell (World.block_lt_of_cell? w3 _ hx1.out)).trans hx1.out), ((HC.out.cell (World.block_lt_of_cell? w3 _ hx2.out)).trans hx2.out)⟩ (fun hHeld => ?_)
                  clear hK K
                  refine norm_ (a' := ?_) ?_ ?_
                  rotate_left
                  · show Act.put _ (some 88) _ = _
                    simp only [Act.put, List.setIfInBounds_toArray, List.set_cons_zero, List.set_cons_succ, i64_w, i32_w]
                    rfl
                  refine one_ (i := 10) (N := some 89) #[true, true, true, true, true, true, true, true, true, true, true, false, false, false, false] rfl rfl (one_of HT_.out (by kernel_rfl)) (by decide) (fun K hK => ?_)
                  refine value_ (w1 := ?_) (v := ?_) (by rfl) rfl ?_ ?_
                  rotate_left 2
                  · go_simp
                    constructor
                    · rfl
                    · rfl
                  refine hK.out _ _ ⟨((blk_cell (blk_alloc BKgB.out _) 0).trans rfl), (((below_alloc HC.out _).cell (World.block_lt_of_cell? w3 _ hx0.out)).trans hx0.out), (((below_alloc HC.out _).cell (World.block_lt_of_cell? w3 _ hx1.out)).trans hx1.out), (((below_alloc HC.out _).cell (World.block_lt_of_cell? w3 _ hx2.out)).trans hx2.out)⟩ (fun hHeld => ?_)
                  clear hK K
                  refine norm_ (a' := ?_) ?_ ?_
                  rotate_left
                  · show Act.put _ (some 89) _ = _
                    simp only [Act.put, List.setIfInBounds_toArray, List.set_cons_zero, List.set_cons_succ, i64_w, i32_w]
                    rfl
                  refine one_ (i := 11) (N := some 90) #[true, true, true, true, true, true, true, true, true, true, true, true, false, false, false] rfl rfl (one_of HT_.out (by kernel_rfl)) (by decide) (fun K hK => ?_)
                  refine Kd.S_append_step k53 (w0 := w) w.heap.size (by rfl) (.tmp 83) (.tmp 89) 22 53 (.agg #[(.int .u64 0), (.slice none 0 0), (.slice none 0 0)]) 56 rfl Try.underlying22 info53_ rfl (by decide) (by omega) (.slice Av xs.length cv) xs ((rd_T53 l x)) [.int .u64 ((rd_T53 l x).f0), .slice Ao1 ((rd_T53 l x).f1).length co1, .slice Ao2 ((rd_T53 l x).f2).length co2] (fun _ => True) (fun k => w3.heap.size ≤ k) rfl rfl ?aP ?aN (fun _ _ => trivial) ?aO ?aB ?aS ?aL ?_
                  (case aP => exact k53_mkM _ _ _ (rd_T53 l x) HO1.out HO2.out)
                  (case aN => exact fun k hk => ⟨trivial, fun e_ => by have := Kd.R_lt (Kd.S_R HO.out) k e_.symm; omega⟩)
                  (case aO => exact Kd.S_mono (Kd.S_old HO.out HC.out) (fun k hk => ⟨trivial, by have := hk.2; omega⟩))
                  (case aB => exact below_step HB.out HC.out)
                  (case aS => exact Nat.le_trans HB.out.size HC.out.size)
                  (case aL => have := HX.out; have h_ : xs.length ≤ l.length := (by rw [this, List.length_take]; omega); omega)
                  intro v9 w10 ho hb hg hat
                  obtain ⟨ys, hy⟩ : ∃ ys, ys = xs ++ [(rd_T53 l x)] := ⟨_, rfl⟩
                  rw [← hy] at ho
                  have HY := Aside0.mk (hy.trans (by rw [HX.out]; exact (take_next l x p0 hlt).symm) : ys = l.take (x + 1).toNat)
                  clear hy
                  have n0_ := Aside0.mk ho
                  have n1_ := Aside0.mk hb
                  have n2_ := Aside0.mk (blk_grown BKgB.out hg (Kd.R_ne (Kd.R_below (Kd.S_R HO.out) HC.out) BKgB.out (by decide)))
                  have n3_ := Aside0.mk (show w10.cell? (ad.add (x.toNat * 3)) = some (.int .u64 (rd_T53 l x).f0) from (hb.cell (World.block_lt_of_cell? w _ hw0.out)).trans hw0.out)
                  have n4_ := Aside0.mk (show w10.cell? ⟨(ad.add (x.toNat * 3)).block, (ad.add (x.toNat * 3)).off + 1, none⟩ = some (.slice A1 (rd_T53 l x).f1.length c1) from (hb.cell (World.block_lt_of_cell? w _ hw1.out)).trans hw1.out)
                  have n5_ := Aside0.mk (show w10.cell? ⟨(ad.add (x.toNat * 3)).block, (ad.add (x.toNat * 3)).off + 2, none⟩ = some (.slice A2 (rd_T53 l x).f2.length c2) from (hb.cell (World.block_lt_of_cell? w _ hw2.out)).trans hw2.out)
                  clear HO HB HC BKgB HO1 HO2 hx0 hx1 hx2
                  have HO := n0_
                  have HB := n1_
                  have BKgB := n2_
                  have hx0 := n3_
                  have hx1 := n4_
                  have hx2 := n5_
                  clear n0_ n1_ n2_ n3_ n4_ n5_
                  clear ho hb hg hat
                  obtain ⟨Av2, cv2, ev2⟩ := Kd.S_slice HO.out
                  subst ev2
                  refine hK.out _ _ ⟨((blk_cell BKgB.out 0).trans rfl), hx0.out, hx1.out, hx2.out⟩ (fun hHeld => ?_)
                  clear hK K
                  refine norm_ (a' := ?_) ?_ ?_
                  rotate_left
                  · show Act.put _ (some 90) _ = _
                    simp only [Act.put, List.setIfInBounds_toArray, List.set_cons_zero, List.set_cons_succ, i64_w, i32_w]
                    rfl
                  refine pure_ (i := 12) (N := some 91) (v := ?_) (a' := ?_) #[true, true, true, true, true, true, true, true, true, true, true, true, true, false, false] rfl rfl (any_of HT_.out (by kernel_rfl)) (fun _ _ _ h => h) (Or.inl ⟨by rfl, ?_⟩) ?_ ?_
                  rotate_left
                  · intro w'
                    go_simp
                    with_reducible rfl
                  rotate_left
                  · simp only [Act.put, List.setIfInBounds_toArray, List.set_cons_zero, List.set_cons_succ, i64_w, i32_w]
                    rfl
                  refine pure_ (i := 13) (N := some 92) (v := ?_) (a' := ?_) #[true, true, true, true, true, true, true, true, true, true, true, true, true, true, false] rfl rfl (any_of HT_.out (by kernel_rfl)) (fun _ _ _ h => h) (Or.inl ⟨by rfl, ?_⟩) ?_ ?_
                  rotate_left
                  · intro w'
                    go_simp
                    with_reducible rfl
                  rotate_left
                  · simp only [Act.put, List.setIfInBounds_toArray, List.set_cons_zero, List.set_cons_succ, i64_w, i32_w]
                    rfl
                  have hsu : w10.cell? ⟨gB, 0, none⟩ = some (.slice Av xs.length cv) := (blk_cell BKgB.out 0).trans rfl
                  have hfu := blk_frozen BKgB.out 0
                  refine last_ (i := 14) (N := none) #[true, true, true, true, true, true, true, true, true, true, true, true, true, true, true] rfl rfl (one_of HT_.out (by kernel_rfl)) (by decide) (fun K hK => ?_)
                  refine skip_ (w1 := ?_) (by rfl) rfl ?_ ?_
                  rotate_left
                  · go_simp
                    rfl
                  refine hK.out _ _ ?_
                  clear hK K
                  refine done_ (done_of HT_.out (by kernel_rfl)) ?_
                  go_wp2
                  go_roundg (ko - 1)
                  case measure => have := HK.out; rw [← hko] at this ⊢; omega
                  case rel => exact ⟨x + 1, (.slice Av2 ys.length cv2), ys, (by first | rfl | go_num), by omega, by omega, ⟨by have := HK.out; rw [← hko] at this; omega⟩, HY, ⟨by rw [HNX.out, HAB.out]; unfold badO; rw [HT.out, HNy.out]; rfl⟩, ⟨by (with_reducible repeat (first | apply Kd.S_alloc | apply Kd.S_drewN | apply Kd.S_drew)); exact Kd.S_mono (Kd.S_far (p := ⟨gB, 0, none⟩) (Kd.S_types HO.out BKgB.out (by decide)) (fun _ hk => hk.2) _) (fun _ _ => trivial)⟩, ⟨by (with_reducible repeat (first | refine blk_drewN ?_ _ | refine blk_drew ?_ | refine blk_alloc ?_ _)); exact blk_put (cs := #[(.slice Av xs.length cv), .int .i64 o, .int .i64 wd]) BKgB.out 0 _ rfl⟩, ⟨by repeat (first | exact HB.out | apply below_alloc | apply pw_below_drewN | apply below_drew1 | refine below_set ?_ GEgB.out)⟩⟩
          · have c3b0 : decide (x < (l.length : Int)) = false := decide_eq_false hlt
            have HE : l.take x.toNat = l := List.take_of_length_le (by omega)
            rw [HE] at HX HAB
            clear HE
            go_wp2_with (fail)
            go_ret2
            refine ⟨fun _ => ⟨gB, rfl, v, BKgB.out, GEgB.out, GEgB.out, ?_⟩, fun h => absurd ?_ h, HB.out⟩
            · have h1 := Kd.S_mono (Kd.S_bound HO.out) (fun k hk => (hk.2.1 : w.heap.size ≤ k))
              rw [HX.out] at h1
              exact h1
            · rw [HERR.out, HAB.out, if_neg (by simp), if_neg HNE.out]
end Go.Proofs.Ytiokegmpooildaa.Hp
