/- heap.Of: which objects make a heap, with which room, or why not. -/
import Derived.Test.YtiokegmpooildaaOf0
import Derived.Test.YtiokegmpooildaaHr
import Derived.Outline
namespace Go.Proofs.Ytiokegmpooildaa.Hp
open Go.RowKit Go.Proofs.YtiokegmpooildaaW.PrintWords Go.Proofs.YtiokegmpooildaaW.PrintLast Go.Proofs.YtiokegmpooildaaW.PrintMore Go.Proofs.Ytiokegmpooildaa.PAll
set_option linter.unusedVariables false
set_option linter.unusedSimpArgs false
/-- What Of tells where the room is right. -/
def OfTells (l : List S53) (o wd : Int) (w : World) (e : Ending) (w' : World) : Prop :=
  (ofErr l o wd = 0 → ∃ g, e = .returned (.tuple #[.pointer (some ⟨g, 0, none⟩), .int .i64 0]) ∧ HeapO w' g w.heap.size (fun k => w.heap.size ≤ k) l o wd (usedL l)) ∧
  (ofErr l o wd ≠ 0 → e = .returned (.tuple #[.pointer none, .int .i64 (ofErr l o wd)])) ∧ Below w.heap.size w w'
theorem blk_ne {w : World} {a b : Nat} {cs cs' : Array Value} {t t' : TypeId} {fr fr' : Nat × Nat} (h1 : w.heap[a]? = some (.cells cs t fr)) (h2 : w.heap[b]? = some (.cells cs' t' fr')) (ht : t ≠ t') : a ≠ b := by
  rintro rfl
  rw [h1] at h2
  injection h2 with h2
  injection h2 with _ h2
  exact ht h2
theorem OfTells.err {l : List S53} {o wd n : Int} {w W : World} {e : Ending} (he : e = .returned (.tuple #[.pointer none, .int .i64 n])) (hn : ofErr l o wd = n) (h0 : n ≠ 0) (hb : Below w.heap.size w W) : OfTells l o wd w e W :=
  ⟨fun h => absurd (hn.symm.trans h) h0, fun _ => by rw [hn]; exact he, hb⟩
theorem any_of_takeT {p : S53 → Bool} {xs : List S53} {i : Int} (h : (xs.take i.toNat).any p = true) : xs.any p = true := by
  rw [List.any_eq_true] at h ⊢
  obtain ⟨x, hx, hp⟩ := h
  exact ⟨x, List.mem_of_mem_take hx, hp⟩
def heap_Of.T7 : Bool × List (List Nat × List Nat) := (true, [([], []), ([0], [0]), ([1], [1]), ([2], [2]), ([], []), ([4], [4]), ([5], [5]), ([], []), ([7], [7]), ([8], [8]), ([6, 9], [6, 9]), ([3, 10], [3, 10]), ([0, 0, 1, 2, 3, 4, 5, 6, 7, 8, 9, 10, 11], [0]), ([12, 0, 1, 2, 3, 4, 5, 6, 7, 8, 9, 10, 11], [12]), ([13, 11, 10, 0, 1, 2, 3, 4, 5, 6, 7, 8, 9, 10, 11], [11, 13])])
def heap_Of.B7 : List Nat := [0, 1, 3, 7, 0, 16, 48, 0, 128, 384, 1008, 2047, 4095, 8191, 16383]
theorem heap_Of.tab7 : rtab .any (opsOf Try.f14 7) = heap_Of.T7 := by kernel_rfl
theorem heap_Of.bits7 : waitsOk heap_Of.T7.2 heap_Of.B7 = true := by kernel_rfl
def heap_Of.T14 : Bool × List (List Nat × List Nat) := (true, [([], []), ([], []), ([1], [1]), ([2], [2]), ([3], [3]), ([], []), ([5], [5]), ([6], [6]), ([4, 7, 6], [4, 7]), ([0, 0, 1, 2, 3, 4, 5, 6, 7, 8], [0]), ([9, 0, 1, 2, 3, 4, 5, 6, 7, 8], [9]), ([10, 8, 8, 0, 1, 2, 3, 4, 5, 6, 7, 8], [8, 10])])
def heap_Of.B14 : List Nat := [0, 0, 2, 6, 14, 0, 32, 96, 254, 511, 1023, 2047]
theorem heap_Of.tab14 : rtab .any (opsOf Try.f14 14) = heap_Of.T14 := by kernel_rfl
theorem heap_Of.bits14 : waitsOk heap_Of.T14.2 heap_Of.B14 = true := by kernel_rfl

set_option maxHeartbeats 16000000 in
set_option maxRecDepth 100000 in
theorem of_room (A0 : Option Addr) (c0 : Nat) (l : List S53) (o wd : Int) (w : World) (hr0 : Kd.C k53 w A0 l.length l) (hc0 : l.length ≤ c0) (hs : SmallL l) (hw : WordsL l) (hro : roomP o wd) :
    Calls Try.prog 14 #[.slice A0 l.length c0, .int .i64 o, .int .i64 wd] w (OfTells l o wd w) := by
  have hu53 := Try.underlying53
  have HS := Aside0.mk hs
  have HW := Aside0.mk hw
  have hl0 : l.length ≤ 5000 := hs.1
  clear hs hw
  obtain ⟨ho1, ho2, hw1, hw2⟩ := hro
  have HR := Aside0.mk hr0
  clear hr0
  have HC := Aside0.mk (Below.refl w.heap.size w)
  go_enter Try.func14, Try.ntmps14
  go_wp2_with (first | ((with_reducible refine gate_dst (N := 32) rfl ?_); refine box_event ?hg (N := 32) ?hd (cs := #[.slice none 0 0, .int .i64 o, .int .i64 wd, .int .i64 0]) (t := 94) ?hr ?_; (case hd => rfl); (case hg => rfl); (case hr => first | (go_simp; done) | (go_simp; rfl)); intro gB hg wbgB hbox hb; have n0_ := Aside0.mk (below_step (by repeat (first | (with_reducible first | exact HC.out | apply below_alloc | apply pw_below_drewN | apply below_drew1) | exact HC.out)) hb); have n1_ := Aside0.mk (hbox); have n2_ := Aside0.mk (by rw [hg]; exact below_size (by repeat (first | (with_reducible first | exact HC.out | apply below_alloc | apply pw_below_drewN | apply below_drew1) | exact HC.out)) : w.heap.size ≤ gB); clear HC; have HC := n0_; have BKgB := n1_; have GEgB := n2_; clear n0_ n1_ n2_; clear hb hbox hg; have hzgB0 : wbgB.cell? ⟨gB, 0, none⟩ = some (.slice none 0 0) := (blk_cell BKgB.out 0).trans rfl; have hfgB0 := blk_frozen BKgB.out 0; have hzgB1 : wbgB.cell? ⟨gB, 1, none⟩ = some (.int .i64 o) := (blk_cell BKgB.out 1).trans rfl; have hfgB1 := blk_frozen BKgB.out 1; have hzgB2 : wbgB.cell? ⟨gB, 2, none⟩ = some (.int .i64 wd) := (blk_cell BKgB.out 2).trans rfl; have hfgB2 := blk_frozen BKgB.out 2; have hzgB3 : wbgB.cell? ⟨gB, 3, none⟩ = some (.int .i64 0) := (blk_cell BKgB.out 3).trans rfl; have hfgB3 := blk_frozen BKgB.out 3) | ((with_reducible refine gate_dst (N := 8) rfl ?_); refine box_event ?hg (N := 8) ?hd (cs := #[.pointer none]) (t := 26) ?hr ?_; (case hd => rfl); (case hg => rfl); (case hr => first | (go_simp; done) | (go_simp; rfl)); intro hB hg wbhB hbox hb; have n0_ := Aside0.mk (below_step (by repeat (first | (with_reducible first | exact HC.out | apply below_alloc | apply pw_below_drewN | apply below_drew1) | exact HC.out)) hb); have n1_ := Aside0.mk (hbox); have n2_ := Aside0.mk (by rw [hg]; exact below_size (by repeat (first | (with_reducible first | exact HC.out | apply below_alloc | apply pw_below_drewN | apply below_drew1) | exact HC.out)) : w.heap.size ≤ hB); have n3_ := Aside0.mk (blk_below (o := .cells #[.slice none 0 0, .int .i64 o, .int .i64 wd, .int .i64 0] 94 (0, 0)) (by (with_reducible repeat (first | refine blk_drewN ?_ _ | refine blk_drew ?_ | refine blk_alloc ?_ _)); exact BKgB.out) hb); clear HC; clear BKgB; have HC := n0_; have BKhB := n1_; have GEhB := n2_; have BKgB := n3_; clear n0_ n1_ n2_ n3_; clear hb hbox hg; have hzhB0 : wbhB.cell? ⟨hB, 0, none⟩ = some (.pointer none) := (blk_cell BKhB.out 0).trans rfl; have hfhB0 := blk_frozen BKhB.out 0))
  go_loopg [35] l.length (fun kq v35 w' => ∃ x : Int, v35 = .int .i64 x ∧ 0 ≤ x ∧ x ≤ l.length ∧ Aside0 ((kq : Int) + x = l.length) ∧ Aside0 (w'.heap[gB]? = some (.cells #[.slice none 0 0, .int .i64 o, .int .i64 wd, .int .i64 (usedL (l.take x.toNat))] 94 (0, 0))) ∧ Aside0 (w'.heap[hB]? = some (.cells #[.pointer (some ⟨gB, 0, none⟩)] 26 (0, 0))) ∧ Aside0 (Below w.heap.size w w'))
  case atStart => exact ⟨0, rfl, by omega, by omega, ⟨by simp⟩, ⟨by rw [Int.toNat_zero, List.take_zero]; exact blk_far BKgB.out (blk_ne BKgB.out BKhB.out (by decide)) _⟩, ⟨blk_put (cs := #[.pointer none]) BKhB.out 0 _ rfl⟩, ⟨by repeat (first | (with_reducible first | exact HC.out | apply below_alloc | apply pw_below_drewN | apply below_drew1 | refine below_set ?_ GEhB.out) | exact HC.out)⟩⟩
  case round =>
    clear HC
    obtain ⟨x, rfl, p0, p1, HK, BKgB, BKhB, HB⟩ := hrel
    by_cases hlt : x < (l.length : Int)
    · have c3b0 : decide (x < (l.length : Int)) = true := decide_eq_true hlt
      obtain ⟨ad, A1, c1, A2, c2, e0, hx0, hx1, hx2, hl1, hi1, hl2, hi2⟩ := at_T53 HR.out x p0 hlt
      cases e0
      replace hx0 := (HB.out.cell (World.block_lt_of_cell? w _ hx0)).trans hx0
      replace hx1 := (HB.out.cell (World.block_lt_of_cell? w _ hx1)).trans hx1
      replace hx2 := (HB.out.cell (World.block_lt_of_cell? w _ hx2)).trans hx2
      have HR1 := Aside0.mk hi1
      have HL1 := Aside0.mk hl1
      clear hi1 hl1
      have HR2 := Aside0.mk hi2
      have HL2 := Aside0.mk hl2
      clear hi2 hl2
      have HZ := Aside0.mk (size_f (HS.out.at_ x p0 hlt))
      have HU := Aside0.mk (show wrap64 (usedL (l.take x.toNat) + szO (rd_T53 l x)) = usedL (l.take (x + 1).toNat) from by
        have h1 := used_take HS.out x
        have h2 := szO_le (HS.out.at_ x p0 hlt)
        rw [take_next l x p0 hlt, usedL_snoc]
        unfold wrap64
        omega)
      have HC := Aside0.mk (Below.refl wr.heap.size wr)
      go_wp2_with (first | ((with_reducible refine gate_dst (N := 10) rfl ?_); refine box_event ?hg (N := 10) ?hd (cs := #[.int .u64 0, .slice none 0 0, .slice none 0 0]) (t := 53) ?hr ?_; (case hd => rfl); (case hg => rfl); (case hr => first | (go_simp; done) | (go_simp; rfl)); intro gb hg wbgb hbox hb; have n0_ := Aside0.mk (below_step (by repeat (first | (with_reducible first | exact HC.out | apply below_alloc | apply pw_below_drewN | apply below_drew1) | exact HC.out)) hb); have n1_ := Aside0.mk (hbox); have n2_ := Aside0.mk (by rw [hg]; exact below_size (by repeat (first | (with_reducible first | exact HC.out | apply below_alloc | apply pw_below_drewN | apply below_drew1) | exact HC.out)) : wr.heap.size ≤ gb); have n3_ := Aside0.mk (blk_below (o := .cells #[.slice none 0 0, .int .i64 o, .int .i64 wd, .int .i64 (usedL (l.take x.toNat))] 94 (0, 0)) (by (with_reducible repeat (first | refine blk_drewN ?_ _ | refine blk_drew ?_ | refine blk_alloc ?_ _)); exact BKgB.out) hb); have n4_ := Aside0.mk (blk_below (o := .cells #[.pointer (some ⟨gB, 0, none⟩)] 26 (0, 0)) (by (with_reducible repeat (first | refine blk_drewN ?_ _ | refine blk_drew ?_ | refine blk_alloc ?_ _)); exact BKhB.out) hb); clear HC; clear BKgB; clear BKhB; have HC := n0_; have BKgb := n1_; have GEgb := n2_; have BKgB := n3_; have BKhB := n4_; clear n0_ n1_ n2_ n3_ n4_; clear hb hbox hg; have hzgb0 : wbgb.cell? ⟨gb, 0, none⟩ = some (.int .u64 0) := (blk_cell BKgb.out 0).trans rfl; have hfgb0 := blk_frozen BKgb.out 0; have hzgb1 : wbgb.cell? ⟨gb, 1, none⟩ = some (.slice none 0 0) := (blk_cell BKgb.out 1).trans rfl; have hfgb1 := blk_frozen BKgb.out 1; have hzgb2 : wbgb.cell? ⟨gb, 2, none⟩ = some (.slice none 0 0) := (blk_cell BKgb.out 2).trans rfl; have hfgb2 := blk_frozen BKgb.out 2))
      have n0_ := Aside0.mk (show (((wbgb.setCell ⟨gb, 0, none⟩ (.int .u64 (rd_T53 l x).f0)).setCell ⟨gb, 1, none⟩ (.slice A1 (rd_T53 l x).f1.length c1)).setCell ⟨gb, 2, none⟩ (.slice A2 (rd_T53 l x).f2.length c2)).heap[gb]? = some (.cells #[.int .u64 (rd_T53 l x).f0, .slice A1 (rd_T53 l x).f1.length c1, .slice A2 (rd_T53 l x).f2.length c2] 53 (0, 0)) from blk_put (cs := #[.int .u64 (rd_T53 l x).f0, .slice A1 (rd_T53 l x).f1.length c1, .slice none 0 0]) (blk_put (cs := #[.int .u64 (rd_T53 l x).f0, .slice none 0 0, .slice none 0 0]) (blk_put (cs := #[.int .u64 0, .slice none 0 0, .slice none 0 0]) BKgb.out 0 _ rfl) 1 _ rfl) 2 _ rfl)
      have n1_ := Aside0.mk (show (((wbgb.setCell ⟨gb, 0, none⟩ (.int .u64 (rd_T53 l x).f0)).setCell ⟨gb, 1, none⟩ (.slice A1 (rd_T53 l x).f1.length c1)).setCell ⟨gb, 2, none⟩ (.slice A2 (rd_T53 l x).f2.length c2)).heap[gB]? = some (.cells #[.slice none 0 0, .int .i64 o, .int .i64 wd, .int .i64 (usedL (l.take x.toNat))] 94 (0, 0)) from blk_far (blk_far (blk_far BKgB.out (blk_ne BKgB.out BKgb.out (by decide)) _) (blk_ne BKgB.out BKgb.out (by decide)) _) (blk_ne BKgB.out BKgb.out (by decide)) _)
      have n2_ := Aside0.mk (show (((wbgb.setCell ⟨gb, 0, none⟩ (.int .u64 (rd_T53 l x).f0)).setCell ⟨gb, 1, none⟩ (.slice A1 (rd_T53 l x).f1.length c1)).setCell ⟨gb, 2, none⟩ (.slice A2 (rd_T53 l x).f2.length c2)).heap[hB]? = some (.cells #[.pointer (some ⟨gB, 0, none⟩)] 26 (0, 0)) from blk_far (blk_far (blk_far BKhB.out (blk_ne BKhB.out BKgb.out (by decide)) _) (blk_ne BKhB.out BKgb.out (by decide)) _) (blk_ne BKhB.out BKgb.out (by decide)) _)
      have n3_ := Aside0.mk (show Below wr.heap.size wr (((wbgb.setCell ⟨gb, 0, none⟩ (.int .u64 (rd_T53 l x).f0)).setCell ⟨gb, 1, none⟩ (.slice A1 (rd_T53 l x).f1.length c1)).setCell ⟨gb, 2, none⟩ (.slice A2 (rd_T53 l x).f2.length c2)) from by repeat (first | (with_reducible first | exact HC.out | refine below_set ?_ GEgb.out) | exact HC.out))
      clear BKgb HC BKgB BKhB
      have BKgb := n0_
      have BKgB := n1_
      have BKhB := n2_
      have HC := n3_
      clear n0_ n1_ n2_ n3_
      clear hzgb0 hfgb0 hzgb1 hfgb1 hzgb2 hfgb2
      generalize (((wbgb.setCell ⟨gb, 0, none⟩ (.int .u64 (rd_T53 l x).f0)).setCell ⟨gb, 1, none⟩ (.slice A1 (rd_T53 l x).f1.length c1)).setCell ⟨gb, 2, none⟩ (.slice A2 (rd_T53 l x).f2.length c2)) = W1 at BKgb HC BKgB BKhB ⊢
      have n0_ := Aside0.mk (blk_drew BKgb.out)
      have n1_ := Aside0.mk (blk_drew BKgB.out)
      have n2_ := Aside0.mk (blk_drew BKhB.out)
      have n3_ := Aside0.mk (below_drew1 HC.out)
      clear HC BKgb BKgB BKhB
      have BKgb := n0_
      have BKgB := n1_
      have BKhB := n2_
      have HC := n3_
      clear n0_ n1_ n2_ n3_
      refine start_ (n := 15) (S := fun w' => w'.cell? ⟨hB, 0, none⟩ = some (.pointer (some ⟨gB, 0, none⟩)) ∧ w'.cell? ⟨gB, 3, none⟩ = some (.int .i64 (usedL (l.take x.toNat))) ∧ w'.cell? ⟨gb, 1, none⟩ = some (.slice A1 (rd_T53 l x).f1.length c1) ∧ w'.cell? ⟨gb, 2, none⟩ = some (.slice A2 (rd_T53 l x).f2.length c2)) (ds := [14]) #[false, false, false, false, false, false, false, false, false, false, false, false, false, false, false] (by kernel_rfl) rfl rfl ⟨(blk_cell BKhB.out 0).trans rfl, (blk_cell BKgB.out 3).trans rfl, (blk_cell BKgb.out 1).trans rfl, (blk_cell BKgb.out 2).trans rfl⟩ (fun hHeld => ?_); refine with_tabW heap_Of.tab7 heap_Of.bits7 (fun HT_ HW_ => ?_)
      generalize W1.drew = W2 at BKgb BKgB BKhB HC hHeld ⊢
      refine take_ (i := 0) (N := some 39) (v := ?_) (a' := ?_) #[true, false, false, false, false, false, false, false, false, false, false, false, false, false, false] rfl rfl (take_ofW HT_.out HW_.out (by kernel_rfl)) (fun _ _ _ h => h) (Or.inl ⟨by rfl, ?_⟩) hHeld ?_ ?_
      rotate_left
      · rintro w' ⟨s0, s1, s2, s3⟩
        go_simp
        with_reducible rfl
      rotate_left
      · simp only [Act.put, List.setIfInBounds_toArray, List.set_cons_zero, List.set_cons_succ, i64_w, i32_w]
        rfl
      refine pure_ (i := 1) (N := some 40) (v := ?_) (a' := ?_) #[true, true, false, false, false, false, false, false, false, false, false, false, false, false, false] rfl rfl (any_of HT_.out (by kernel_rfl)) (fun _ _ _ h => h) (Or.inl ⟨by rfl, ?_⟩) ?_ ?_
      rotate_left
      · intro w'
        go_simp
        with_reducible rfl
      rotate_left
      · simp only [Act.put, List.setIfInBounds_toArray, List.set_cons_zero, List.set_cons_succ, i64_w, i32_w]
        rfl
      refine pure_ (i := 2) (N := some 41) (v := ?_) (a' := ?_) #[true, true, true, false, false, false, false, false, false, false, false, false, false, false, false] rfl rfl (any_of HT_.out (by kernel_rfl)) (fun _ _ _ h => h) (Or.inl ⟨by rfl, ?_⟩) ?_ ?_
      rotate_left
      · intro w'
        go_simp
        with_reducible rfl
      rotate_left
      · simp only [Act.put, List.setIfInBounds_toArray, List.set_cons_zero, List.set_cons_succ, i64_w, i32_w]
        rfl
      refine pure_ (i := 4) (N := some 43) (v := ?_) (a' := ?_) #[true, true, true, false, true, false, false, false, false, false, false, false, false, false, false] rfl rfl (any_of HT_.out (by kernel_rfl)) (fun _ _ _ h => h) (Or.inl ⟨by rfl, ?_⟩) ?_ ?_
      rotate_left
      · intro w'
        go_simp
        with_reducible rfl
      rotate_left
      · simp only [Act.put, List.setIfInBounds_toArray, List.set_cons_zero, List.set_cons_succ, i64_w, i32_w]
        rfl
      refine pure_ (i := 7) (N := some 46) (v := ?_) (a' := ?_) #[true, true, true, false, true, false, false, true, false, false, false, false, false, false, false] rfl rfl (any_of HT_.out (by kernel_rfl)) (fun _ _ _ h => h) (Or.inl ⟨by rfl, ?_⟩) ?_ ?_
      rotate_left
      · intro w'
        go_simp
        with_reducible rfl
      rotate_left
      · simp only [Act.put, List.setIfInBounds_toArray, List.set_cons_zero, List.set_cons_succ, i64_w, i32_w]
        rfl
      refine take_ (i := 3) (N := some 42) (v := ?_) (a' := ?_) #[true, true, true, true, true, false, false, true, false, false, false, false, false, false, false] rfl rfl (take_ofW HT_.out HW_.out (by kernel_rfl)) (fun _ _ _ h => h) (Or.inl ⟨by rfl, ?_⟩) hHeld ?_ ?_
      rotate_left
      · rintro w' ⟨s0, s1, s2, s3⟩
        go_simp
        with_reducible rfl
      rotate_left
      · simp only [Act.put, List.setIfInBounds_toArray, List.set_cons_zero, List.set_cons_succ, i64_w, i32_w]
        rfl
      refine take_ (i := 5) (N := some 44) (v := ?_) (a' := ?_) #[true, true, true, true, true, true, false, true, false, false, false, false, false, false, false] rfl rfl (take_ofW HT_.out HW_.out (by kernel_rfl)) (fun _ _ _ h => h) (Or.inl ⟨by rfl, ?_⟩) hHeld ?_ ?_
      rotate_left
      · rintro w' ⟨s0, s1, s2, s3⟩
        go_simp
        with_reducible rfl
      rotate_left
      · simp only [Act.put, List.setIfInBounds_toArray, List.set_cons_zero, List.set_cons_succ, i64_w, i32_w]
        rfl
      refine take_ (i := 8) (N := some 47) (v := ?_) (a' := ?_) #[true, true, true, true, true, true, false, true, true, false, false, false, false, false, false] rfl rfl (take_ofW HT_.out HW_.out (by kernel_rfl)) (fun _ _ _ h => h) (Or.inl ⟨by rfl, ?_⟩) hHeld ?_ ?_
      rotate_left
      · rintro w' ⟨s0, s1, s2, s3⟩
        go_simp
        with_reducible rfl
      rotate_left
      · simp only [Act.put, List.setIfInBounds_toArray, List.set_cons_zero, List.set_cons_succ, i64_w, i32_w]
        rfl
      refine pure_ (i := 6) (N := some 45) (v := ?_) (a' := ?_) #[true, true, true, true, true, true, true, true, true, false, false, false, false, false, false] rfl rfl (any_of HT_.out (by kernel_rfl)) (fun _ _ _ h => h) (Or.inl ⟨by rfl, ?_⟩) ?_ ?_
      rotate_left
      · intro w'
        go_simp
        with_reducible rfl
      rotate_left
      · simp only [Act.put, List.setIfInBounds_toArray, List.set_cons_zero, List.set_cons_succ, i64_w, i32_w]
        rfl
      refine pure_ (i := 9) (N := some 48) (v := ?_) (a' := ?_) #[true, true, true, true, true, true, true, true, true, true, false, false, false, false, false] rfl rfl (any_of HT_.out (by kernel_rfl)) (fun _ _ _ h => h) (Or.inl ⟨by rfl, ?_⟩) ?_ ?_
      rotate_left
      · intro w'
        go_simp
        with_reducible rfl
      rotate_left
      · simp only [Act.put, List.setIfInBounds_toArray, List.set_cons_zero, List.set_cons_succ, i64_w, i32_w]
        rfl
      refine one_ (i := 10) (N := some 49) #[true, true, true, true, true, true, true, true, true, true, true, false, false, false, false] rfl rfl (one_of HT_.out (by kernel_rfl)) (by decide) (fun K hK => ?_)
      refine goes_ Try.func51 (by kernel_rfl) rfl #[.int .i64 ((rd_T53 l x).f1.length : Int), .int .i64 ((rd_T53 l x).f2.length : Int)] (by rfl) rfl rfl (by (try simp only [List.map_toArray, List.map_cons, List.map_nil]); first | done | rfl | (simp only [List.length_drop, List.length_take]; rfl)) ?_
      with_reducible refine (heap_size.calls _ _ _ _ HZ.out).mono ?_
      rintro e w7 ⟨rfl, ⟨nd, rfl⟩⟩
      refine ⟨_, rfl, ?_⟩
      refine hK.out _ _ ⟨(blk_cell (blk_drewN BKhB.out _) 0).trans rfl, (blk_cell (blk_drewN BKgB.out _) 3).trans rfl, (blk_cell (blk_drewN BKgb.out _) 1).trans rfl, (blk_cell (blk_drewN BKgb.out _) 2).trans rfl⟩ (fun hHeld => ?_)
      clear hK K
      refine norm_ (a' := ?_) ?_ ?_
      rotate_left
      · show Act.put _ (some 49) _ = _
        simp only [Act.put, List.setIfInBounds_toArray, List.set_cons_zero, List.set_cons_succ, i64_w, i32_w]
        rfl
      refine pure_ (i := 11) (N := some 50) (v := ?_) (a' := ?_) #[true, true, true, true, true, true, true, true, true, true, true, true, false, false, false] rfl rfl (any_of HT_.out (by kernel_rfl)) (fun _ _ _ h => h) (Or.inl ⟨by rfl, ?_⟩) ?_ ?_
      rotate_left
      · intro w'
        go_simp
        with_reducible rfl
      rotate_left
      · simp only [Act.put, List.setIfInBounds_toArray, List.set_cons_zero, List.set_cons_succ, i64_w, i32_w]
        rfl
      refine pure_ (i := 12) (N := some 51) (v := ?_) (a' := ?_) #[true, true, true, true, true, true, true, true, true, true, true, true, true, false, false] rfl rfl (any_of HT_.out (by kernel_rfl)) (fun _ _ _ h => h) (Or.inl ⟨by rfl, ?_⟩) ?_ ?_
      rotate_left
      · intro w'
        go_simp
        with_reducible rfl
      rotate_left
      · simp only [Act.put, List.setIfInBounds_toArray, List.set_cons_zero, List.set_cons_succ, i64_w, i32_w]
        rfl
      refine pure_ (i := 13) (N := some 52) (v := ?_) (a' := ?_) #[true, true, true, true, true, true, true, true, true, true, true, true, true, true, false] rfl rfl (any_of HT_.out (by kernel_rfl)) (fun _ _ _ h => h) (Or.inl ⟨by rfl, ?_⟩) ?_ ?_
      rotate_left
      · intro w'
        go_simp
        with_reducible rfl
      rotate_left
      · simp only [Act.put, List.setIfInBounds_toArray, List.set_cons_zero, List.set_cons_succ, i64_w, i32_w]
        rfl
      have hsu : (W2.drewN nd).cell? ⟨gB, 3, none⟩ = some (.int .i64 (usedL (l.take x.toNat))) := (blk_cell (blk_drewN BKgB.out _) 3).trans rfl
      have hfu := blk_frozen (blk_drewN BKgB.out nd) 3
      refine last_ (i := 14) (N := none) #[true, true, true, true, true, true, true, true, true, true, true, true, true, true, true] rfl rfl (one_of HT_.out (by kernel_rfl)) (by decide) (fun K hK => ?_)
      refine skip_ (w1 := ?_) (by rfl) rfl ?_ ?_
      rotate_left
      · go_simp
        rfl
      refine hK.out _ _ ?_
      clear hK K
      refine done_ (done_of HT_.out (by kernel_rfl)) ?_
      go_wp2
      go_roundg (gk - 1)
      case measure => have := HK.out; omega
      case rel => exact ⟨x + 1, (by first | rfl | go_num), by omega, by omega, ⟨by have := HK.out; omega⟩, ⟨by rw [← HU.out]; (with_reducible repeat (first | refine blk_drewN ?_ _ | refine blk_drew ?_ | refine blk_alloc ?_ _)); exact blk_put (cs := #[.slice none 0 0, .int .i64 o, .int .i64 wd, .int .i64 (usedL (l.take x.toNat))]) (blk_drewN BKgB.out _) 3 _ rfl⟩, ⟨blk_far (blk_drewN BKhB.out _) (blk_ne BKhB.out BKgB.out (by decide)) _⟩, ⟨(by repeat (first | exact below_step HB.out HC.out | apply below_alloc | apply pw_below_drewN | apply below_drew1 | refine below_set ?_ GEgB.out))⟩⟩
    · have c3b0 : decide (x < (l.length : Int)) = false := decide_eq_false hlt
      have HE : l.take x.toNat = l := List.take_of_length_le (by omega)
      rw [HE] at BKgB
      clear HE
      have hch : wr.cell? ⟨hB, 0, none⟩ = some (.pointer (some ⟨gB, 0, none⟩)) := (blk_cell BKhB.out 0).trans rfl
      have hcu : wr.cell? ⟨gB, 3, none⟩ = some (.int .i64 (usedL l)) := (blk_cell BKgB.out 3).trans rfl
      by_cases hov : o < (l.length : Int)
      · go_wp2_with (fail)
        go_ret2
        exact OfTells.err rfl (by unfold ofErr; rw [if_pos (Or.inl hov)]) (by decide) HB.out
      · have hov' : decide (o < (l.length : Int)) = false := decide_eq_false hov
        by_cases huv : wd < usedL l
        · go_wp2_with (fail)
          go_ret2
          exact OfTells.err rfl (by unfold ofErr; rw [if_pos (Or.inr huv)]) (by decide) HB.out
        · have huv' : decide (wd < usedL l) = false := decide_eq_false huv
          have HERR := Aside0.mk (show ofErr l o wd = if l.any (badO l.length) = true then 61 else if l = [] then 61 else 0 from by unfold ofErr; rw [if_neg (by omega)])
          obtain ⟨wo, rfl⟩ : ∃ wo : World, wo = wr := ⟨_, rfl⟩
          clear HK
          go_wp2_with (fail)
          go_loopg [68] l.length (fun kq v68 w' => ∃ (x : Int) (v : Value) (xs : List S53), v68 = .int .i64 x ∧ 0 ≤ x ∧ x ≤ l.length ∧ Aside0 ((kq : Int) + x = l.length) ∧ Aside0 (xs = l.take x.toNat) ∧ Aside0 (Kd.S k53 53 w' w.heap.size (fun _ => True) v xs) ∧ Aside0 (w'.heap[gB]? = some (.cells #[v, .int .i64 o, .int .i64 wd, .int .i64 (usedL l)] 94 (0, 0))) ∧ Aside0 (w'.heap[hB]? = some (.cells #[.pointer (some ⟨gB, 0, none⟩)] 26 (0, 0))) ∧ Aside0 (Below w.heap.size w w'))
          case atStart => exact ⟨0, .slice none 0 0, [], rfl, by omega, by omega, ⟨by simp⟩, ⟨by simp⟩, ⟨Kd.S_nil _ _ _ _ _⟩, ⟨by (with_reducible repeat (first | refine blk_drewN ?_ _ | refine blk_drew ?_ | refine blk_alloc ?_ _)); exact BKgB.out⟩, ⟨by (with_reducible repeat (first | refine blk_drewN ?_ _ | refine blk_drew ?_ | refine blk_alloc ?_ _)); exact BKhB.out⟩, ⟨by repeat (first | exact HB.out | apply below_alloc | apply pw_below_drewN | apply below_drew1)⟩⟩
          case round =>
            clear hch hcu HB BKgB BKhB p0 p1 hlt c3b0
            obtain ⟨x, v, xs, rfl, p0, p1, HK, HX, HO, BKgB, BKhB, HB⟩ := hrel
            by_cases hlt : x < (l.length : Int)
            · have c3b0 : decide (x < (l.length : Int)) = true := decide_eq_true hlt
              obtain ⟨ad, A1, c1, A2, c2, e0, hx0, hx1, hx2, hl1, hi1, hl2, hi2⟩ := at_T53 HR.out x p0 hlt
              cases e0
              replace hx0 := (HB.out.cell (World.block_lt_of_cell? w _ hx0)).trans hx0
              replace hx1 := (HB.out.cell (World.block_lt_of_cell? w _ hx1)).trans hx1
              replace hx2 := (HB.out.cell (World.block_lt_of_cell? w _ hx2)).trans hx2
              have HR1 := Aside0.mk hi1
              have HL1 := Aside0.mk hl1
              clear hi1 hl1
              have HR2 := Aside0.mk hi2
              have HL2 := Aside0.mk hl2
              clear hi2 hl2
              have HF := Aside0.mk (clone_f _ (HS.out.at_ x p0 hlt))
              obtain ⟨Av, cv, ev⟩ := Kd.S_slice HO.out
              subst ev
              have HC := Aside0.mk (Below.refl wr.heap.size wr)
              go_wp2_with (first | ((with_reducible refine gate_dst (N := 12) rfl ?_); refine box_event ?hg (N := 12) ?hd (cs := #[.int .u64 0, .slice none 0 0, .slice none 0 0]) (t := 53) ?hr ?_; (case hd => rfl); (case hg => rfl); (case hr => first | (go_simp; done) | (go_simp; rfl)); intro gb hg wbgb hbox hb; have n0_ := Aside0.mk (below_step (by repeat (first | (with_reducible first | exact HC.out | apply below_alloc | apply pw_below_drewN | apply below_drew1) | exact HC.out)) hb); have n1_ := Aside0.mk (hbox); have n2_ := Aside0.mk (by rw [hg]; exact below_size (by repeat (first | (with_reducible first | exact HC.out | apply below_alloc | apply pw_below_drewN | apply below_drew1) | exact HC.out)) : wr.heap.size ≤ gb); have n3_ := Aside0.mk (blk_below (o := .cells #[(.slice Av xs.length cv), .int .i64 o, .int .i64 wd, .int .i64 (usedL l)] 94 (0, 0)) (by (with_reducible repeat (first | refine blk_drewN ?_ _ | refine blk_drew ?_ | refine blk_alloc ?_ _)); exact BKgB.out) hb); have n4_ := Aside0.mk (blk_below (o := .cells #[.pointer (some ⟨gB, 0, none⟩)] 26 (0, 0)) (by (with_reducible repeat (first | refine blk_drewN ?_ _ | refine blk_drew ?_ | refine blk_alloc ?_ _)); exact BKhB.out) hb); clear HC; clear BKgB; clear BKhB; have HC := n0_; have BKgb := n1_; have GEgb := n2_; have BKgB := n3_; have BKhB := n4_; clear n0_ n1_ n2_ n3_ n4_; clear hb hbox hg; have hzgb0 : wbgb.cell? ⟨gb, 0, none⟩ = some (.int .u64 0) := (blk_cell BKgb.out 0).trans rfl; have hfgb0 := blk_frozen BKgb.out 0; have hzgb1 : wbgb.cell? ⟨gb, 1, none⟩ = some (.slice none 0 0) := (blk_cell BKgb.out 1).trans rfl; have hfgb1 := blk_frozen BKgb.out 1; have hzgb2 : wbgb.cell? ⟨gb, 2, none⟩ = some (.slice none 0 0) := (blk_cell BKgb.out 2).trans rfl; have hfgb2 := blk_frozen BKgb.out 2))
              have n0_ := Aside0.mk (show (((wbgb.setCell ⟨gb, 0, none⟩ (.int .u64 (rd_T53 l x).f0)).setCell ⟨gb, 1, none⟩ (.slice A1 (rd_T53 l x).f1.length c1)).setCell ⟨gb, 2, none⟩ (.slice A2 (rd_T53 l x).f2.length c2)).heap[gb]? = some (.cells #[.int .u64 (rd_T53 l x).f0, .slice A1 (rd_T53 l x).f1.length c1, .slice A2 (rd_T53 l x).f2.length c2] 53 (0, 0)) from blk_put (cs := #[.int .u64 (rd_T53 l x).f0, .slice A1 (rd_T53 l x).f1.length c1, .slice none 0 0]) (blk_put (cs := #[.int .u64 (rd_T53 l x).f0, .slice none 0 0, .slice none 0 0]) (blk_put (cs := #[.int .u64 0, .slice none 0 0, .slice none 0 0]) BKgb.out 0 _ rfl) 1 _ rfl) 2 _ rfl)
              have n1_ := Aside0.mk (show (((wbgb.setCell ⟨gb, 0, none⟩ (.int .u64 (rd_T53 l x).f0)).setCell ⟨gb, 1, none⟩ (.slice A1 (rd_T53 l x).f1.length c1)).setCell ⟨gb, 2, none⟩ (.slice A2 (rd_T53 l x).f2.length c2)).heap[gB]? = some (.cells #[(.slice Av xs.length cv), .int .i64 o, .int .i64 wd, .int .i64 (usedL l)] 94 (0, 0)) from blk_far (blk_far (blk_far BKgB.out (blk_ne BKgB.out BKgb.out (by decide)) _) (blk_ne BKgB.out BKgb.out (by decide)) _) (blk_ne BKgB.out BKgb.out (by decide)) _)
              have n2_ := Aside0.mk (show (((wbgb.setCell ⟨gb, 0, none⟩ (.int .u64 (rd_T53 l x).f0)).setCell ⟨gb, 1, none⟩ (.slice A1 (rd_T53 l x).f1.length c1)).setCell ⟨gb, 2, none⟩ (.slice A2 (rd_T53 l x).f2.length c2)).heap[hB]? = some (.cells #[.pointer (some ⟨gB, 0, none⟩)] 26 (0, 0)) from blk_far (blk_far (blk_far BKhB.out (blk_ne BKhB.out BKgb.out (by decide)) _) (blk_ne BKhB.out BKgb.out (by decide)) _) (blk_ne BKhB.out BKgb.out (by decide)) _)
              have n3_ := Aside0.mk (show Below wr.heap.size wr (((wbgb.setCell ⟨gb, 0, none⟩ (.int .u64 (rd_T53 l x).f0)).setCell ⟨gb, 1, none⟩ (.slice A1 (rd_T53 l x).f1.length c1)).setCell ⟨gb, 2, none⟩ (.slice A2 (rd_T53 l x).f2.length c2)) from by repeat (first | (with_reducible first | exact HC.out | refine below_set ?_ GEgb.out) | exact HC.out))
              clear BKgb HC BKgB BKhB
              have BKgb := n0_
              have BKgB := n1_
              have BKhB := n2_
              have HC := n3_
              clear n0_ n1_ n2_ n3_
              clear hzgb0 hfgb0 hzgb1 hfgb1 hzgb2 hfgb2
              generalize (((wbgb.setCell ⟨gb, 0, none⟩ (.int .u64 (rd_T53 l x).f0)).setCell ⟨gb, 1, none⟩ (.slice A1 (rd_T53 l x).f1.length c1)).setCell ⟨gb, 2, none⟩ (.slice A2 (rd_T53 l x).f2.length c2)) = W1 at BKgb HC BKgB BKhB ⊢
              have n0_ := Aside0.mk (blk_drew BKgb.out)
              have n1_ := Aside0.mk (blk_drew BKgB.out)
              have n2_ := Aside0.mk (blk_drew BKhB.out)
              have n3_ := Aside0.mk (below_drew1 HC.out)
              clear HC BKgb BKgB BKhB
              have BKgb := n0_
              have BKgB := n1_
              have BKhB := n2_
              have HC := n3_
              clear n0_ n1_ n2_ n3_
              refine start_ (n := 12) (S := fun w' => w'.cell? ⟨hB, 0, none⟩ = some (.pointer (some ⟨gB, 0, none⟩)) ∧ w'.cell? ⟨gB, 0, none⟩ = some (.slice Av xs.length cv) ∧ w'.cell? ⟨gb, 0, none⟩ = some (.int .u64 (rd_T53 l x).f0) ∧ w'.cell? ⟨gb, 1, none⟩ = some (.slice A1 (rd_T53 l x).f1.length c1) ∧ w'.cell? ⟨gb, 2, none⟩ = some (.slice A2 (rd_T53 l x).f2.length c2)) (ds := [11]) #[false, false, false, false, false, false, false, false, false, false, false, false] (by kernel_rfl) rfl rfl ⟨(blk_cell BKhB.out 0).trans rfl, (blk_cell BKgB.out 0).trans rfl, (blk_cell BKgb.out 0).trans rfl, (blk_cell BKgb.out 1).trans rfl, (blk_cell BKgb.out 2).trans rfl⟩ (fun hHeld => ?_); refine with_tabW heap_Of.tab14 heap_Of.bits14 (fun HT_ HW_ => ?_)
              generalize W1.drew = W2 at BKgb BKgB BKhB HC hHeld ⊢
              refine take_ (i := 0) (N := some 72) (v := ?_) (a' := ?_) #[true, false, false, false, false, false, false, false, false, false, false, false] rfl rfl (take_ofW HT_.out HW_.out (by kernel_rfl)) (fun _ _ _ h => h) (Or.inl ⟨by rfl, ?_⟩) hHeld ?_ ?_
              rotate_left
              · rintro w' ⟨s0, s1, s2, s3, s4⟩
                go_simp
                with_reducible rfl
              rotate_left
              · simp only [Act.put, List.setIfInBounds_toArray, List.set_cons_zero, List.set_cons_succ, i64_w, i32_w]
                rfl
              refine take_ (i := 1) (N := some 73) (v := ?_) (a' := ?_) #[true, true, false, false, false, false, false, false, false, false, false, false] rfl rfl (take_ofW HT_.out HW_.out (by kernel_rfl)) (fun _ _ _ h => h) (Or.inl ⟨by rfl, ?_⟩) hHeld ?_ ?_
              rotate_left
              · rintro w' ⟨s0, s1, s2, s3, s4⟩
                go_simp
                with_reducible rfl
              rotate_left
              · simp only [Act.put, List.setIfInBounds_toArray, List.set_cons_zero, List.set_cons_succ, i64_w, i32_w]
                rfl
              refine pure_ (i := 2) (N := some 74) (v := ?_) (a' := ?_) #[true, true, true, false, false, false, false, false, false, false, false, false] rfl rfl (any_of HT_.out (by kernel_rfl)) (fun _ _ _ h => h) (Or.inl ⟨by rfl, ?_⟩) ?_ ?_
              rotate_left
              · intro w'
                go_simp
                with_reducible rfl
              rotate_left
              · simp only [Act.put, List.setIfInBounds_toArray, List.set_cons_zero, List.set_cons_succ, i64_w, i32_w]
                rfl
              refine pure_ (i := 3) (N := some 75) (v := ?_) (a' := ?_) #[true, true, true, true, false, false, false, false, false, false, false, false] rfl rfl (any_of HT_.out (by kernel_rfl)) (fun _ _ _ h => h) (Or.inl ⟨by rfl, ?_⟩) ?_ ?_
              rotate_left
              · intro w'
                go_simp
                with_reducible rfl
              rotate_left
              · simp only [Act.put, List.setIfInBounds_toArray, List.set_cons_zero, List.set_cons_succ, i64_w, i32_w]
                rfl
              refine take_ (i := 4) (N := some 76) (v := ?_) (a' := ?_) #[true, true, true, true, true, false, false, false, false, false, false, false] rfl rfl (take_ofW HT_.out HW_.out (by kernel_rfl)) (fun _ _ _ h => h) (Or.inl ⟨by rfl, ?_⟩) hHeld ?_ ?_
              rotate_left
              · rintro w' ⟨s0, s1, s2, s3, s4⟩
                go_simp
                with_reducible rfl
              rotate_left
              · simp only [Act.put, List.setIfInBounds_toArray, List.set_cons_zero, List.set_cons_succ, i64_w, i32_w]
                rfl
              refine take_ (i := 5) (N := some 77) (v := ?_) (a' := ?_) #[true, true, true, true, true, true, false, false, false, false, false, false] rfl rfl (take_ofW HT_.out HW_.out (by kernel_rfl)) (fun _ _ _ h => h) (Or.inl ⟨by rfl, ?_⟩) hHeld ?_ ?_
              rotate_left
              · rintro w' ⟨s0, s1, s2, s3, s4⟩
                go_simp
                with_reducible rfl
              rotate_left
              · simp only [Act.put, List.setIfInBounds_toArray, List.set_cons_zero, List.set_cons_succ, i64_w, i32_w]
                rfl
              refine one_ (i := 6) (N := some 78) #[true, true, true, true, true, true, true, false, false, false, false, false] rfl rfl (one_of HT_.out (by kernel_rfl)) (by decide) (fun K hK => ?_)
              refine goes_ Try.func52 (by kernel_rfl) rfl #[.agg #[.int .u64 ((rd_T53 l x).f0), .slice A1 ((rd_T53 l x).f1).length c1, .slice A2 ((rd_T53 l x).f2).length c2]] (by rfl) rfl rfl (by (try simp only [List.map_toArray, List.map_cons, List.map_nil]); first | done | rfl | (simp only [List.length_drop, List.length_take]; rfl)) ?_
              with_reducible refine (heap_clone.calls _ _ _ ((rd_T53 l x).f1) _ _ ((rd_T53 l x).f2) _ _ _ _ ?side1 ?side2 ?side3 ?side4 HF.out).mono ?_
              (case side1 => exact Kd.C_below HR1.out (below_step HB.out HC.out))
              (case side2 => exact HL1.out)
              (case side3 => exact Kd.C_below HR2.out (below_step HB.out HC.out))
              (case side4 => exact HL2.out)
              rintro e w9 ⟨v1, v2, rfl, ho1, ho2, hb⟩
              have n0_ := Aside0.mk (row_new ho1 HC.out.size HB.out.size)
              have n1_ := Aside0.mk (row_new ho2 HC.out.size HB.out.size)
              have n2_ := Aside0.mk (below_step HC.out hb)
              have n3_ := Aside0.mk (blk_below BKgb.out hb)
              have n4_ := Aside0.mk (blk_below BKgB.out hb)
              have n5_ := Aside0.mk (blk_below BKhB.out hb)
              clear HC BKgb BKgB BKhB
              have HO1 := n0_
              have HO2 := n1_
              have HC := n2_
              have BKgb := n3_
              have BKgB := n4_
              have BKhB := n5_
              clear n0_ n1_ n2_ n3_ n4_ n5_
              clear ho1 ho2 hb
              obtain ⟨Ao1, co1, eo1⟩ := Kd.R_slice HO1.out
              subst eo1
              obtain ⟨Ao2, co2, eo2⟩ := Kd.R_slice HO2.out
              subst eo2
              refine ⟨_, rfl, ?_⟩
              refine hK.out _ _ ⟨(blk_cell BKhB.out 0).trans rfl, (blk_cell BKgB.out 0).trans rfl, (blk_cell BKgb.out 0).trans rfl, (blk_cell BKgb.out 1).trans rfl, (blk_cell BKgb.out 2).trans rfl⟩ (fun hHeld => ?_)
              clear hK K
              refine norm_ (a' := ?_) ?_ ?_
              rotate_left
              · show Act.put _ (some 78) _ = _
                simp only [Act.put, List.setIfInBounds_toArray, List.set_cons_zero, List.set_cons_succ, i64_w, i32_w]
                rfl
              refine one_ (i := 7) (N := some 79) #[true, true, true, true, true, true, true, true, false, false, false, false] rfl rfl (one_of HT_.out (by kernel_rfl)) (by decide) (fun K hK => ?_)
              refine value_ (w1 := ?_) (v := ?_) (by rfl) rfl ?_ ?_
              rotate_left 2
              · go_simp
                constructor
                · rfl
                · rfl
              refine hK.out _ _ ⟨(blk_cell (blk_alloc BKhB.out _) 0).trans rfl, (blk_cell (blk_alloc BKgB.out _) 0).trans rfl, (blk_cell (blk_alloc BKgb.out _) 0).trans rfl, (blk_cell (blk_alloc BKgb.out _) 1).trans rfl, (blk_cell (blk_alloc BKgb.out _) 2).trans rfl⟩ (fun hHeld => ?_)
              clear hK K
              refine norm_ (a' := ?_) ?_ ?_
              rotate_left
              · show Act.put _ (some 79) _ = _
                simp only [Act.put, List.setIfInBounds_toArray, List.set_cons_zero, List.set_cons_succ, i64_w, i32_w]
                rfl
              refine one_ (i := 8) (N := some 80) #[true, true, true, true, true, true, true, true, true, false, false, false] rfl rfl (one_of HT_.out (by kernel_rfl)) (by decide) (fun K hK => ?_)
              refine Kd.S_append_step k53 (w0 := w) w.heap.size (by rfl) (.tmp 76) (.tmp 79) 22 53 (.agg #[(.int .u64 0), (.slice none 0 0), (.slice none 0 0)]) 56 rfl Try.underlying22 info53_ rfl (by decide) (by omega) (.slice Av xs.length cv) xs (rd_T53 l x) [.int .u64 ((rd_T53 l x).f0), .slice Ao1 ((rd_T53 l x).f1).length co1, .slice Ao2 ((rd_T53 l x).f2).length co2] (fun _ => True) (fun k => wr.heap.size ≤ k) rfl rfl ?aP ?aN (fun _ _ => trivial) ?aO ?aB ?aS ?aL ?_
              (case aP => exact k53_mkM _ _ _ (rd_T53 l x) HO1.out HO2.out)
              (case aN => exact fun k hk => ⟨trivial, fun e_ => by have := Kd.R_lt (Kd.S_R HO.out) k e_.symm; omega⟩)
              (case aO => exact Kd.S_mono (Kd.S_old HO.out HC.out) (fun k hk => ⟨trivial, by have := hk.2; omega⟩))
              (case aB => exact below_step HB.out HC.out)
              (case aS => exact Nat.le_trans HB.out.size HC.out.size)
              (case aL => have := HX.out; have h_ : xs.length ≤ l.length := (by rw [this, List.length_take]; omega); omega)
              intro v9 w10 ho hb hg hat
              obtain ⟨ys, hy⟩ : ∃ ys, ys = xs ++ [rd_T53 l x] := ⟨_, rfl⟩
              rw [← hy] at ho
              have HY := Aside0.mk (hy.trans (by rw [HX.out]; exact (take_next l x p0 hlt).symm) : ys = l.take (x + 1).toNat)
              clear hy
              have n0_ := Aside0.mk ho
              have n1_ := Aside0.mk hb
              have n2_ := Aside0.mk (blk_grown BKgB.out hg (Kd.R_ne (Kd.R_below (Kd.S_R HO.out) HC.out) BKgB.out (by decide)))
              have n3_ := Aside0.mk (blk_grown BKhB.out hg (Kd.R_ne (Kd.R_below (Kd.S_R HO.out) HC.out) BKhB.out (by decide)))
              have n4_ := Aside0.mk (blk_grown BKgb.out hg (fun e_ => by have := Kd.R_lt (Kd.S_R HO.out) gb e_.symm; have := GEgb.out; omega))
              clear HO HB HC BKgB BKhB BKgb HO1 HO2
              have HO := n0_
              have HB := n1_
              have BKgB := n2_
              have BKhB := n3_
              have BKgb := n4_
              clear n0_ n1_ n2_ n3_ n4_
              clear ho hb hg hat
              obtain ⟨Av2, cv2, ev2⟩ := Kd.S_slice HO.out
              subst ev2
              refine hK.out _ _ ⟨(blk_cell BKhB.out 0).trans rfl, (blk_cell BKgB.out 0).trans rfl, (blk_cell BKgb.out 0).trans rfl, (blk_cell BKgb.out 1).trans rfl, (blk_cell BKgb.out 2).trans rfl⟩ (fun hHeld => ?_)
              clear hK K
              refine norm_ (a' := ?_) ?_ ?_
              rotate_left
              · show Act.put _ (some 80) _ = _
                simp only [Act.put, List.setIfInBounds_toArray, List.set_cons_zero, List.set_cons_succ, i64_w, i32_w]
                rfl
              refine pure_ (i := 9) (N := some 81) (v := ?_) (a' := ?_) #[true, true, true, true, true, true, true, true, true, true, false, false] rfl rfl (any_of HT_.out (by kernel_rfl)) (fun _ _ _ h => h) (Or.inl ⟨by rfl, ?_⟩) ?_ ?_
              rotate_left
              · intro w'
                go_simp
                with_reducible rfl
              rotate_left
              · simp only [Act.put, List.setIfInBounds_toArray, List.set_cons_zero, List.set_cons_succ, i64_w, i32_w]
                rfl
              refine pure_ (i := 10) (N := some 82) (v := ?_) (a' := ?_) #[true, true, true, true, true, true, true, true, true, true, true, false] rfl rfl (any_of HT_.out (by kernel_rfl)) (fun _ _ _ h => h) (Or.inl ⟨by rfl, ?_⟩) ?_ ?_
              rotate_left
              · intro w'
                go_simp
                with_reducible rfl
              rotate_left
              · simp only [Act.put, List.setIfInBounds_toArray, List.set_cons_zero, List.set_cons_succ, i64_w, i32_w]
                rfl
              have hsu : w10.cell? ⟨gB, 0, none⟩ = some (.slice Av xs.length cv) := (blk_cell BKgB.out 0).trans rfl
              have hfu := blk_frozen BKgB.out 0
              refine last_ (i := 11) (N := none) #[true, true, true, true, true, true, true, true, true, true, true, true] rfl rfl (one_of HT_.out (by kernel_rfl)) (by decide) (fun K hK => ?_)
              refine skip_ (w1 := ?_) (by rfl) rfl ?_ ?_
              rotate_left
              · go_simp
                rfl
              refine hK.out _ _ ?_
              clear hK K
              refine done_ (done_of HT_.out (by kernel_rfl)) ?_
              go_wp2
              go_roundg (gk - 1)
              case measure => have := HK.out; omega
              case rel => exact ⟨x + 1, .slice Av2 ys.length cv2, ys, (by first | rfl | go_num), by omega, by omega, ⟨by have := HK.out; omega⟩, HY, ⟨by (with_reducible repeat (first | apply Kd.S_alloc | apply Kd.S_drewN | apply Kd.S_drew)); exact Kd.S_mono (Kd.S_far (p := ⟨gB, 0, none⟩) (Kd.S_types HO.out BKgB.out (by decide)) (fun _ hk => hk.2) _) (fun _ _ => trivial)⟩, ⟨by (with_reducible repeat (first | refine blk_drewN ?_ _ | refine blk_drew ?_ | refine blk_alloc ?_ _)); exact blk_put (cs := #[(.slice Av xs.length cv), .int .i64 o, .int .i64 wd, .int .i64 (usedL l)]) BKgB.out 0 _ rfl⟩, ⟨by (with_reducible repeat (first | refine blk_drewN ?_ _ | refine blk_drew ?_ | refine blk_alloc ?_ _)); exact blk_far BKhB.out (blk_ne BKhB.out BKgB.out (by decide)) _⟩, ⟨by repeat (first | exact HB.out | apply below_alloc | apply pw_below_drewN | apply below_drew1 | refine below_set ?_ GEgB.out)⟩⟩
            · have c3b0 : decide (x < (l.length : Int)) = false := decide_eq_false hlt
              have hxl : xs = l := HX.out.trans (List.take_of_length_le (by omega))
              obtain ⟨Av, cv, ev⟩ := Kd.S_slice HO.out
              subst ev
              rw [hxl] at HO BKgB
              clear HX hxl HK
              have HRD := Aside0.mk (Kd.S_reads' HO.out)
              have HH := Aside0.mk (show HeapC wr gB l o wd (usedL l) from ⟨Av, cv, BKgB.out, HRD.out.2.1, HRD.out.2.2⟩)
              have HRv := Aside0.mk HRD.out.2.2
              have HL := Aside0.mk hl0
              have hch : wr.cell? ⟨hB, 0, none⟩ = some (.pointer (some ⟨gB, 0, none⟩)) := (blk_cell BKhB.out 0).trans rfl
              have hcv : wr.cell? ⟨gB, 0, none⟩ = some (.slice Av l.length cv) := (blk_cell BKgB.out 0).trans rfl
              obtain ⟨wo, rfl⟩ : ∃ wo : World, wo = wr := ⟨_, rfl⟩
              clear p0 p1 hlt
              go_wp2_with (fail)
              go_loopg [89] l.length (fun kq v89 w' => ∃ x : Int, v89 = .int .i64 x ∧ 0 ≤ x ∧ x ≤ l.length ∧ Aside0 ((kq : Int) + x = l.length) ∧ Aside0 ((l.take x.toNat).any (badO l.length) = false) ∧ Aside0 (Below wo.heap.size wo w'))
              case atStart => exact ⟨0, rfl, by omega, by omega, ⟨by simp⟩, ⟨by simp⟩, ⟨by repeat (first | exact Below.refl _ _ | apply below_alloc | apply pw_below_drewN | apply below_drew1)⟩⟩
              case round =>
                clear hch hcv c3b0
                obtain ⟨x, rfl, p0, p1, HK, HA, HBo⟩ := hrel
                by_cases hlt : x < (l.length : Int)
                · have c3b0 : decide (x < (l.length : Int)) = true := decide_eq_true hlt
                  obtain ⟨ad2, A1, c1, A2, c2, e0, hx0, hx1, hx2, hl1, hi1, hl2, hi2⟩ := at_T53 HRv.out x p0 hlt
                  cases e0
                  replace hx0 := (HBo.out.cell (World.block_lt_of_cell? wo _ hx0)).trans hx0
                  replace hx1 := (HBo.out.cell (World.block_lt_of_cell? wo _ hx1)).trans hx1
                  replace hx2 := (HBo.out.cell (World.block_lt_of_cell? wo _ hx2)).trans hx2
                  have HR1 := Aside0.mk (Kd.C_below hi1 HBo.out)
                  clear hl1 hl2 hi1 hi2
                  have HWx := Aside0.mk (HW.out _ (rdT_mem p0 hlt))
                  have HC := Aside0.mk (Below.refl wr.heap.size wr)
                  have HNX := Aside0.mk (any_next (p := badO l.length) p0 hlt)
                  go_upto_region 19 with (first | ((with_reducible refine gate_dst (N := 14) rfl ?_); refine box_event ?hg (N := 14) ?hd (cs := #[.int .u64 0, .slice none 0 0, .slice none 0 0]) (t := 53) ?hr ?_; (case hd => rfl); (case hg => rfl); (case hr => first | (go_simp; done) | (go_simp; rfl)); intro gb hg wbgb hbox hb; have n0_ := Aside0.mk (below_step (by repeat (first | (with_reducible first | exact HC.out | apply below_alloc | apply pw_below_drewN | apply below_drew1) | exact HC.out)) hb); have n1_ := Aside0.mk (hbox); have n2_ := Aside0.mk (by rw [hg]; exact below_size (by repeat (first | (with_reducible first | exact HC.out | apply below_alloc | apply pw_below_drewN | apply below_drew1) | exact HC.out)) : wr.heap.size ≤ gb); clear HC; have HC := n0_; have BKgb := n1_; have GEgb := n2_; clear n0_ n1_ n2_; clear hb hbox hg; have hzgb0 : wbgb.cell? ⟨gb, 0, none⟩ = some (.int .u64 0) := (blk_cell BKgb.out 0).trans rfl; have hfgb0 := blk_frozen BKgb.out 0; have hzgb1 : wbgb.cell? ⟨gb, 1, none⟩ = some (.slice none 0 0) := (blk_cell BKgb.out 1).trans rfl; have hfgb1 := blk_frozen BKgb.out 1; have hzgb2 : wbgb.cell? ⟨gb, 2, none⟩ = some (.slice none 0 0) := (blk_cell BKgb.out 2).trans rfl; have hfgb2 := blk_frozen BKgb.out 2))
                  have n0_ := Aside0.mk (show (((wbgb.setCell ⟨gb, 0, none⟩ (.int .u64 (rd_T53 l x).f0)).setCell ⟨gb, 1, none⟩ (.slice A1 (rd_T53 l x).f1.length c1)).setCell ⟨gb, 2, none⟩ (.slice A2 (rd_T53 l x).f2.length c2)).heap[gb]? = some (.cells #[.int .u64 (rd_T53 l x).f0, .slice A1 (rd_T53 l x).f1.length c1, .slice A2 (rd_T53 l x).f2.length c2] 53 (0, 0)) from blk_put (cs := #[.int .u64 (rd_T53 l x).f0, .slice A1 (rd_T53 l x).f1.length c1, .slice none 0 0]) (blk_put (cs := #[.int .u64 (rd_T53 l x).f0, .slice none 0 0, .slice none 0 0]) (blk_put (cs := #[.int .u64 0, .slice none 0 0, .slice none 0 0]) BKgb.out 0 _ rfl) 1 _ rfl) 2 _ rfl)
                  have n1_ := Aside0.mk (show Below wr.heap.size wr (((wbgb.setCell ⟨gb, 0, none⟩ (.int .u64 (rd_T53 l x).f0)).setCell ⟨gb, 1, none⟩ (.slice A1 (rd_T53 l x).f1.length c1)).setCell ⟨gb, 2, none⟩ (.slice A2 (rd_T53 l x).f2.length c2)) from by repeat (first | (with_reducible first | exact HC.out | refine below_set ?_ GEgb.out) | exact HC.out))
                  clear BKgb HC 
                  have BKgb := n0_
                  have HC := n1_
                  clear n0_ n1_
                  clear hzgb0 hfgb0 hzgb1 hfgb1 hzgb2 hfgb2
                  generalize (((wbgb.setCell ⟨gb, 0, none⟩ (.int .u64 (rd_T53 l x).f0)).setCell ⟨gb, 1, none⟩ (.slice A1 (rd_T53 l x).f1.length c1)).setCell ⟨gb, 2, none⟩ (.slice A2 (rd_T53 l x).f2.length c2)) = W1 at BKgb HC  ⊢
                  have hch1 : W1.cell? ⟨hB, 0, none⟩ = some (.pointer (some ⟨gB, 0, none⟩)) := (HC.out.cell (Nat.lt_of_lt_of_le (blk_lt BKhB.out) HBo.out.size)).trans ((HBo.out.cell (blk_lt BKhB.out)).trans ((blk_cell BKhB.out 0).trans rfl))
                  have hcb0 : W1.cell? ⟨gb, 0, none⟩ = some (.int .u64 (rd_T53 l x).f0) := (blk_cell BKgb.out 0).trans rfl
                  have hcb1 : W1.cell? ⟨gb, 1, none⟩ = some (.slice A1 (rd_T53 l x).f1.length c1) := (blk_cell BKgb.out 1).trans rfl
                  cases ht : thereP l.length (rd_T53 l x).f0 with
                  | false =>
                    have HT := Aside0.mk ht
                    clear ht
                    go_wp2_with (first | ((with_reducible refine gate_callee (f := 53) rfl ?_); refine goesL_ (some 96) rfl rfl Try.func53 (by kernel_rfl) rfl #[.pointer (some ⟨gB, 0, none⟩), .int .u64 (rd_T53 l x).f0] rfl (by (try simp only [List.map_toArray, List.map_cons, List.map_nil]); first | done | rfl) ?_; (with_reducible refine (heap_there gB (rd_T53 l x).f0 l o wd (usedL l) _ ?side1 HWx.out.1 HL.out).mono ?_); (case side1 => exact HH.out.below (below_step HBo.out HC.out)); rintro e w' ⟨rfl, ⟨nd, rfl⟩⟩; refine ⟨_, rfl, ?_⟩; rw [HT.out]))
                    go_ret2
                    refine OfTells.err rfl ?_ (by decide) (by repeat (first | exact below_step (below_step HB.out HBo.out) HC.out | apply pw_below_drewN))
                    rw [HERR.out, if_pos]
                    refine any_of_takeT (i := x + 1) ?_
                    rw [HNX.out]
                    unfold badO
                    rw [HT.out]
                    simp
                  | true =>
                    have HT := Aside0.mk ht
                    clear ht
                    cases hn : ((rd_T53 l x).f1.any fun a => !mayP l.length a) with
                    | true =>
                      have HN := Aside0.mk hn
                      clear hn
                      go_wp2_with (first | ((with_reducible refine gate_callee (f := 53) rfl ?_); refine goesL_ (some 96) rfl rfl Try.func53 (by kernel_rfl) rfl #[.pointer (some ⟨gB, 0, none⟩), .int .u64 (rd_T53 l x).f0] rfl (by (try simp only [List.map_toArray, List.map_cons, List.map_nil]); first | done | rfl) ?_; (with_reducible refine (heap_there gB (rd_T53 l x).f0 l o wd (usedL l) _ ?side1 HWx.out.1 HL.out).mono ?_); (case side1 => exact HH.out.below (below_step HBo.out HC.out)); rintro e w' ⟨rfl, ⟨nd, rfl⟩⟩; refine ⟨_, rfl, ?_⟩; rw [HT.out]) | (go_at_call 54; (with_reducible refine (contains_func hB gB A1 c1 (rd_T53 l x).f1 l o wd (usedL l) _ ?side2 ?side3 ?side4 ?side5 ?side6 HL.out).mono ?_); (case side2 => exact Kd.C_below HR1.out (by repeat (first | exact HC.out | apply pw_below_drewN))); (case side3 => exact (HS.out.at_ x p0 hlt).1); (case side4 => exact HWx.out.2); (case side5 => exact hch1); (case side6 => exact HH.out.below (by repeat (first | exact below_step HBo.out HC.out | apply pw_below_drewN))); rintro e w' ⟨rfl, ⟨nd, rfl⟩⟩; rw [HN.out]))
                      go_ret2
                      refine OfTells.err rfl ?_ (by decide) (by repeat (first | exact below_step (below_step HB.out HBo.out) HC.out | apply pw_below_drewN))
                      rw [HERR.out, if_pos]
                      refine any_of_takeT (i := x + 1) ?_
                      rw [HNX.out]
                      unfold badO
                      rw [HT.out, HN.out]
                      simp
                    | false =>
                      have HN := Aside0.mk hn
                      clear hn
                      go_wp2_with (first | ((with_reducible refine gate_callee (f := 53) rfl ?_); refine goesL_ (some 96) rfl rfl Try.func53 (by kernel_rfl) rfl #[.pointer (some ⟨gB, 0, none⟩), .int .u64 (rd_T53 l x).f0] rfl (by (try simp only [List.map_toArray, List.map_cons, List.map_nil]); first | done | rfl) ?_; (with_reducible refine (heap_there gB (rd_T53 l x).f0 l o wd (usedL l) _ ?side1 HWx.out.1 HL.out).mono ?_); (case side1 => exact HH.out.below (below_step HBo.out HC.out)); rintro e w' ⟨rfl, ⟨nd, rfl⟩⟩; refine ⟨_, rfl, ?_⟩; rw [HT.out]) | (go_at_call 54; (with_reducible refine (contains_func hB gB A1 c1 (rd_T53 l x).f1 l o wd (usedL l) _ ?side2 ?side3 ?side4 ?side5 ?side6 HL.out).mono ?_); (case side2 => exact Kd.C_below HR1.out (by repeat (first | exact HC.out | apply pw_below_drewN))); (case side3 => exact (HS.out.at_ x p0 hlt).1); (case side4 => exact HWx.out.2); (case side5 => exact hch1); (case side6 => exact HH.out.below (by repeat (first | exact below_step HBo.out HC.out | apply pw_below_drewN))); rintro e w' ⟨rfl, ⟨nd, rfl⟩⟩; rw [HN.out]))
                      go_roundg (gk - 1)
                      case measure => have := HK.out; omega
                      case rel => exact ⟨x + 1, (by first | rfl | go_num), by omega, by omega, ⟨by have := HK.out; omega⟩, ⟨by rw [HNX.out, HA.out]; unfold badO; rw [HT.out, HN.out]; rfl⟩, ⟨by repeat (first | exact below_step HBo.out HC.out | apply pw_below_drewN)⟩⟩
                · have c3b0 : decide (x < (l.length : Int)) = false := decide_eq_false hlt
                  have HE : l.take x.toNat = l := List.take_of_length_le (by omega)
                  rw [HE] at HA
                  clear HE
                  have hch1 : wr.cell? ⟨hB, 0, none⟩ = some (.pointer (some ⟨gB, 0, none⟩)) := (HBo.out.cell (blk_lt BKhB.out)).trans ((blk_cell BKhB.out 0).trans rfl)
                  by_cases hz : l.length = 0
                  · have hz1 : ((l.length : Int) == 0) = true := by rw [beq_iff_eq]; omega
                    have HZ := Aside0.mk hz
                    clear hz
                    go_wp2_with (fail)
                    go_ret2
                    refine OfTells.err rfl ?_ (by decide) (below_step HB.out HBo.out)
                    rw [HERR.out, HA.out, if_neg (by simp), if_pos (List.eq_nil_of_length_eq_zero HZ.out)]
                  · have hz1 : ((l.length : Int) == 0) = false := by rw [beq_eq_false_iff_ne]; omega
                    have HZ := Aside0.mk hz
                    clear hz
                    go_wp2_with (fail)
                    go_ret2
                    refine ⟨fun _ => ⟨gB, rfl, .slice Av l.length cv, (HBo.out.block gB (blk_lt BKgB.out)).trans BKgB.out, GEgB.out, GEgB.out, ?_⟩, fun h => absurd ?_ h, below_step HB.out HBo.out⟩
                    · exact Kd.S_mono (Kd.S_below (Kd.S_bound HO.out) HBo.out) (fun _ hk => hk.2.1)
                    · rw [HERR.out, HA.out, if_neg (by simp), if_neg (fun h => HZ.out (by rw [h]; rfl))]
end Go.Proofs.Ytiokegmpooildaa.Hp
