/- The reference's heap: Make. -/
import Derived.Test.YtiokegmpooildaaRm
import Derived.Test.YtiokegmpooildaaMd
import Derived.Test.YtiokegmpooildaaPw
import Derived.Test.YtiokegmpooildaaRl
import Derived.Deep.Cut
namespace Go.Proofs.Ytiokegmpooildaa.Hp
open Go.RowKit Go.Proofs.YtiokegmpooildaaW.PrintWords Go.Proofs.YtiokegmpooildaaW.PrintLast Go.Proofs.YtiokegmpooildaaW.PrintMore Go.Proofs.Ytiokegmpooildaa.PAll
set_option linter.unusedVariables false
set_option linter.unusedSimpArgs false
theorem info5_ : (Try.prog.info? 5).map (fun i => (i.zero, i.size, i.bytes)) = some (some (.int .u8 0), 1, 1) := by kernel_rfl
theorem grown_put2 (W : World) (g j : Nat) (u : Value) : W.grownBy (W.setCell ⟨g, j, none⟩ u) (some g) := ⟨rfl, rfl, rfl, by simp [World.setCell], fun k hk hne => Below.heap_setCell _ _ _ _ (fun e => hne (by rw [e]))⟩
theorem R_put {α : Type} {d : Kd α} {e base : Nat} {ok : Nat → Prop} {W : World} {v : Value} {xs : List α} {g : Nat} (h : Kd.R d e W base ok v xs) (hE : d.E = []) (hne : some g ≠ v.ownBlock) (j : Nat) (u : Value) : Kd.R d e (W.setCell ⟨g, j, none⟩ u) base ok v xs := Kd.R_grown1 h hE (grown_put2 W g j u) hne
theorem u64w_ (x : Int) : IntKind.u64.wrap x = x % 18446744073709551616 := by kernel_rfl
theorem info36r_ : (Try.prog.info? 36).map (fun i => (i.zero, i.size, i.bytes)) = some (some (.int .u64 0), 1, 8) := by kernel_rfl
def rmk.T5 : Bool × List (List Nat × List Nat) := (true, [([], []), ([], []), ([1, 1], [1]), ([], []), ([], []), ([3, 4], [3, 4]), ([0, 2, 5], [0, 2, 5]), ([], []), ([7, 6, 5, 0, 1, 2, 3, 4, 5, 6, 7], [6, 7])])
def rmk.B5 : List Nat := [0, 0, 2, 0, 0, 24, 63, 0, 255]
theorem rmk.tab5 : rtab .any (opsOf Try.f42 5) = rmk.T5 := by kernel_rfl
theorem rmk.bits5 : waitsOk rmk.T5.2 rmk.B5 = true := by kernel_rfl
def rmk.T6 : Bool × List (List Nat × List Nat) := (true, [([], []), ([0], [0]), ([1], [1]), ([2], [2]), ([3], [3]), ([4], [4]), ([], []), ([6], [6]), ([7], [7]), ([8], [8]), ([5, 9], [5, 9]), ([10], [10]), ([11], [11]), ([12, 11], [11, 12]), ([13, 11], [11, 13]), ([14, 11], [11, 14]), ([15, 11, 11], [11, 15]), ([11], [11]), ([17, 16, 11], [11, 17]), ([16, 18, 11], [11, 16, 18]), ([11], [11]), ([20, 11], [11, 20]), ([21, 11], [11, 21]), ([22, 11], [11, 22]), ([19, 23, 11], [11, 19, 23]), ([11, 24], [11, 24])])
def rmk.B6 : List Nat := [0, 1, 3, 7, 15, 31, 0, 64, 192, 448, 1023, 2047, 4095, 8191, 16383, 32767, 65535, 4095, 262143, 524287, 4095, 1052671, 3149823, 7344127, 16777215, 33554431]
theorem rmk.tab6 : rtab .any (opsOf Try.f42 6) = rmk.T6 := by kernel_rfl
theorem rmk.bits6 : waitsOk rmk.T6.2 rmk.B6 = true := by kernel_rfl
def rmk.T8 : Bool × List (List Nat × List Nat) := (true, [([], []), ([], []), ([], []), ([2], [2]), ([3], [3]), ([4], [4]), ([1, 5], [1, 5]), ([], []), ([7], [7]), ([6, 8, 6], [6, 8]), ([0, 0, 1, 2, 3, 4, 5, 6, 7, 8, 9], [0]), ([10, 0, 1, 2, 3, 4, 5, 6, 7, 8, 9], [10]), ([11, 9, 9, 0, 1, 2, 3, 4, 5, 6, 7, 8, 9], [9, 11])])
def rmk.B8 : List Nat := [0, 0, 0, 4, 12, 28, 62, 0, 128, 510, 1023, 2047, 4095]
theorem rmk.tab8 : rtab .any (opsOf Try.f42 8) = rmk.T8 := by kernel_rfl
theorem rmk.bits8 : waitsOk rmk.T8.2 rmk.B8 = true := by kernel_rfl
set_option maxHeartbeats 16000000 in
set_option maxRecDepth 100000 in
theorem ref_Make_in (g B : Nat) (ok : Nat → Prop) (cls slots : Int) (A : Option Addr) (c : Nat) (bs : List Int) (l : List S53) (o wd : Int) (w0 w : World) (hfr : ∀ k, w.heap.size ≤ k → ok k) (hO : RefO w g B ok l o wd) (hl : (l.length : Int) ≤ o) (ho : o ≤ 4096) (hs : SmallL l) (ha : W64 cls) (ht : thereP l.length cls = true)
    (s0 : 0 ≤ slots) (s1 : slots ≤ 1000) (hb : bs.length ≤ 8000) (hCb : Kd.C (Kd.int .u8) w0 A bs.length bs) (hcb : bs.length ≤ c) (hB0 : Below w0.heap.size w0 w) :
    Calls Try.prog 42 #[.pointer (some ⟨g, 0, none⟩), .int .u64 cls, .int .i64 slots, .slice A bs.length c] w fun e w' => e = .returned (.tuple #[.int .u64 (makeW l o wd (usedL l) cls slots bs), .int .i64 (makeE l o wd (usedL l) cls slots bs)]) ∧ RefO w' g B ok (makeL l o wd (usedL l) cls slots bs) o wd ∧ Frm ok w w' := by
  have HRC := Aside0.mk hO.reads
  have HO := Aside0.mk hO
  have HVB0 := Aside0.mk (Kd.C_below hCb hB0)
  have HCB := Aside0.mk hcb
  have hl5 : l.length ≤ 5000 := hs.1
  have HTT := Aside0.mk ht
  have HFR := Aside0.mk hfr
  clear hfr
  have HPOS := Aside0.mk (show 0 < l.length from by have := thereP_at ht; unfold W64 at ha; omega)
  have HUV := Aside0.mk (used_val l hs)
  have HGB : Aside0 (B ≤ w.heap.size) := ⟨by obtain ⟨_, h1, h2, _⟩ := hO; exact Nat.le_trans h2 (Nat.le_of_lt (blk_lt h1))⟩
  have hth := there18 ha l.length hl5
  rw [ht] at hth
  have HTH := Aside0.mk (show monticuleref18_There.f cls l.length = some (cls / 2) from hth)
  have z1 : decide (cls / 2 < 0) = false := decide_eq_false (by unfold W64 at ha; omega)
  have b0 : decide (slots < 0) = false := decide_eq_false (by omega)
  have b1 : decide (1000 < slots) = false := decide_eq_false (by omega)
  have b2 : decide ((8000 : Int) < (bs.length : Int)) = false := decide_eq_false (by omega)
  obtain ⟨zs, hzs⟩ : ∃ zs : List Int, List.replicate slots.toNat 0 = zs := ⟨_, rfl⟩
  have HZS := Aside0.mk hzs
  obtain ⟨A0, c0, hA0, hA1, hA2⟩ := hO.reads
  have hc0 : w.cell? ⟨g, 0, none⟩ = some (.slice A0 l.length c0) := (blk_cell hA0 0).trans rfl
  clear hA0 hA1 hA2 hth hzs hO hCb hcb hB0
  go_enter Try.func42, Try.ntmps42
  go_upto_region 5 with (first | (go_at_call 41; (with_reducible refine (monticuleref18_There.calls cls (l.length : Int) _ _ HTH.out).mono ?_); rintro e w' ⟨rfl, ⟨nd, rfl⟩⟩))
  have n0_ := Aside0.mk (pw_below_drewN (Below.refl w.heap.size w) nd)
  have n1_ := Aside0.mk (HO.out.below n0_.out)
  have n2_ := Aside0.mk (Kd.C_below HVB0.out n0_.out)
  generalize hw_ : w.drewN nd = wq at n0_ n1_ n2_ ⊢
  clear hw_ HO HVB0 HRC hc0
  have HBW := n0_
  have HO := n1_
  have HVB := n2_
  clear n0_ n1_ n2_
  go_cut [10] from 11 (fun v10 w' => ∃ (gA : Nat) (Az : Option Addr) (cz : Nat) (Ab : Option Addr) (cb : Nat), v10 = .pointer (some ⟨gA, 0, none⟩) ∧ Aside0 (w'.heap[gA]? = some (.cells #[.int .u64 cls, .slice Az zs.length cz, .slice Ab bs.length cb] 53 (0, 0))) ∧ Aside0 (wq.heap.size ≤ gA) ∧ Aside0 (Kd.R (Kd.int .u64) 36 w' wq.heap.size (fun _ => True) (.slice Az zs.length cz) zs) ∧ Aside0 (Kd.R (Kd.int .u8) 5 w' wq.heap.size (fun _ => True) (.slice Ab bs.length cb) bs) ∧ Aside0 (Below wq.heap.size wq w'))
  case first =>
      refine start_ (n := 9) (S := fun w' => True) (ds := [8]) #[false, false, false, false, false, false, false, false, false] (by kernel_rfl) rfl rfl trivial (fun hHeld => ?_); refine with_tabW rmk.tab5 rmk.bits5 (fun HT_ HW_ => ?_)
      have hq_ := Aside0.mk (below_drew (Below.refl wq.heap.size wq))
      generalize wq.drew = w5 at hq_ ⊢
      have HQ := hq_
      clear hq_
      refine pure_ (i := 0) (N := some 30) (v := ?_) (a' := ?_) #[true, false, false, false, false, false, false, false, false] rfl rfl (any_of HT_.out (by kernel_rfl)) (fun _ _ _ h => h) (Or.inl ⟨by rfl, ?_⟩) ?_ ?_
      rotate_left
      · intro w'
        go_simp
        with_reducible rfl
      rotate_left
      · simp only [Act.put, List.setIfInBounds_toArray, List.set_cons_zero, List.set_cons_succ, i64_w, i32_w]
        rfl
      refine pure_ (i := 1) (N := some 31) (v := ?_) (a' := ?_) #[true, true, false, false, false, false, false, false, false] rfl rfl (any_of HT_.out (by kernel_rfl)) (fun _ _ _ h => h) (Or.inl ⟨by rfl, ?_⟩) ?_ ?_
      rotate_left
      · intro w'
        go_simp
        with_reducible rfl
      rotate_left
      · simp only [Act.put, List.setIfInBounds_toArray, List.set_cons_zero, List.set_cons_succ, i64_w, i32_w]
        rfl
      refine pure_ (i := 4) (N := some 34) (v := ?_) (a' := ?_) #[true, true, false, false, true, false, false, false, false] rfl rfl (any_of HT_.out (by kernel_rfl)) (fun _ _ _ h => h) (Or.inl ⟨by rfl, ?_⟩) ?_ ?_
      rotate_left
      · intro w'
        go_simp
        with_reducible rfl
      rotate_left
      · simp only [Act.put, List.setIfInBounds_toArray, List.set_cons_zero, List.set_cons_succ, i64_w, i32_w]
        rfl
      refine three_ (i := 2) (j := 3) (k := 7) (Ni := some 32) (Nj := some 33) (Nk := some 10) #[true, true, true, false, true, false, false, false, false] #[true, true, false, true, true, false, false, false, false] #[true, true, false, false, true, false, false, true, false] rfl rfl rfl rfl rfl rfl (three_of HT_.out (by kernel_rfl)) (by decide) (by decide) (by decide) (fun K hK => ?_) (fun K hK => ?_) (fun K hK => ?_)
      · refine Kd.R_make_step (Kd.int .u64) _ 36 ?hg (N := 32) ?hd 50 (.tmp 31) (.tmp 31) ?ho slots ?hx ?hy Try.underlying50 (.int .u64 0) 8 info36r_ rfl (by decide) (by decide) 0 (ok := fun _ => True) (okp := fun _ => True) rfl (fun _ h => h) trivial s0 (by omega) (Below.refl _ _) (Nat.le_refl _) ?_; (case hg => rfl); (case hd => rfl); (case ho => rfl); (case hx => rfl); (case hy => rfl)
        intro v1 w9 ho1 hb hg_ hat_
        clear hg_ hat_
        rw [HZS.out] at ho1
        have n0_ := Aside0.mk (Kd.R_lower ho1 (below_size (by repeat (first | (with_reducible first | exact HQ.out | apply below_alloc | apply pw_below_drewN | apply below_drew1) | exact HQ.out))))
        have n1_ := Aside0.mk (below_step (by repeat (first | (with_reducible first | exact HQ.out | apply below_alloc | apply pw_below_drewN | apply below_drew1) | exact HQ.out)) hb)
        clear  HQ ho1 hb
        have HZ := n0_
        have HQ := n1_
        clear n0_ n1_
        obtain ⟨Az, cz, ez⟩ := Kd.R_slice HZ.out
        subst ez
        refine hK.out _ _ trivial (fun hHeld => ?_)
        clear hK K
        refine norm_ (a' := ?_) ?_ ?_
        rotate_left
        · show Act.put _ (some 32) _ = _
          simp only [Act.put, List.setIfInBounds_toArray, List.set_cons_zero, List.set_cons_succ, i64_w, i32_w]
          rfl
        refine two_ (i := 3) (j := 7) (Ni := some 33) (Nj := some 10) #[true, true, true, true, true, false, false, false, false] #[true, true, true, false, true, false, false, true, false] rfl rfl rfl rfl (two_of HT_.out (by kernel_rfl)) (by decide) (by decide) (fun K hK => ?_) (fun K hK => ?_)
        · refine Kd.R_lit_step (Kd.int .u8) _ 5 ?hg (N := 33) ?hd (xs := ([] : List Int)) (inner := []) (ok := fun _ => True) (okp := fun _ => True) ?hr ?hp (fun _ hk => hk) trivial (Below.refl _ _) (Nat.le_refl _) (by simp) ?_; (case hd => rfl); (case hg => rfl); (case hr => first | (go_simp; done) | (go_simp; rfl)); (case hp => exact Reps.none _ _)
          intro vl w9 ho1 hb hg_ hat_
          clear hg_ hat_
          have n0_ := Aside0.mk (Kd.R_below HZ.out hb)
          have n1_ := Aside0.mk (Kd.R_lower ho1 (below_size (by repeat (first | (with_reducible first | exact HQ.out | apply below_alloc | apply pw_below_drewN | apply below_drew1) | exact HQ.out))))
          have n2_ := Aside0.mk (below_step (by repeat (first | (with_reducible first | exact HQ.out | apply below_alloc | apply pw_below_drewN | apply below_drew1) | exact HQ.out)) hb)
          clear HZ HQ ho1 hb
          have HZ := n0_
          have HLE := n1_
          have HQ := n2_
          clear n0_ n1_ n2_
          refine hK.out _ _ trivial (fun hHeld => ?_)
          clear hK K
          refine norm_ (a' := ?_) ?_ ?_
          rotate_left
          · show Act.put _ (some 33) _ = _
            simp only [Act.put, List.setIfInBounds_toArray, List.set_cons_zero, List.set_cons_succ, i64_w, i32_w]
            rfl
          refine two_ (i := 5) (j := 7) (Ni := some 35) (Nj := some 10) #[true, true, true, true, true, true, false, false, false] #[true, true, true, true, true, false, false, true, false] rfl rfl rfl rfl (two_of HT_.out (by kernel_rfl)) (by decide) (by decide) (fun K hK => ?_) (fun K hK => ?_)
          · refine Kd.R_append_rows_step (Kd.int .u8) (w0 := wq) wq.heap.size (by rfl) (.tmp 33) (.tmp 34) 51 5 (.int .u8 0) 1 rfl Try.underlying51 info5_ rfl (by decide) (by omega) vl [] bs _ _ _ (fun _ => True) (fun _ => False) rfl rfl ?aO ?aR (fun _ _ h => h) (fun _ h => h.elim) ?aF ?aB ?aS ?aL ?_
            (case aO => exact HLE.out)
            (case aR => exact Kd.C_below HVB.out (by repeat (first | (with_reducible first | exact HQ.out | apply below_alloc | apply pw_below_drewN | apply below_drew1) | exact HQ.out)))
            (case aF => exact fun _ _ => trivial)
            (case aB => exact (by repeat (first | (with_reducible first | exact HQ.out | apply below_alloc | apply pw_below_drewN | apply below_drew1) | exact HQ.out)))
            (case aS => exact below_size (by repeat (first | (with_reducible first | exact HQ.out | apply below_alloc | apply pw_below_drewN | apply below_drew1) | exact HQ.out)))
            (case aL => simp only [List.length_nil]; omega)
            intro vb w9 ho hb hg hat
            rw [List.nil_append] at ho
            have n0_ := Aside0.mk (Kd.R_over' HZ.out (Kd.R_typed HLE.out) (by decide) hg)
            have n1_ := Aside0.mk (ho)
            have n2_ := Aside0.mk (hb)
            clear HZ HQ HLE ho hb hg hat
            have HZ := n0_
            have HBY := n1_
            have HQ := n2_
            clear n0_ n1_ n2_
            obtain ⟨Ab, cb, eb⟩ := Kd.R_slice HBY.out
            subst eb
            refine hK.out _ _ trivial (fun hHeld => ?_)
            clear hK K
            refine norm_ (a' := ?_) ?_ ?_
            rotate_left
            · show Act.put _ (some 35) _ = _
              simp only [Act.put, List.setIfInBounds_toArray, List.set_cons_zero, List.set_cons_succ, i64_w, i32_w]
              rfl
            refine pure_ (i := 6) (N := some 36) (v := ?_) (a' := ?_) #[true, true, true, true, true, true, true, false, false] rfl rfl (any_of HT_.out (by kernel_rfl)) (fun _ _ _ h => h) (Or.inl ⟨by rfl, ?_⟩) ?_ ?_
            rotate_left
            · intro w'
              go_simp
              with_reducible rfl
            rotate_left
            · simp only [Act.put, List.setIfInBounds_toArray, List.set_cons_zero, List.set_cons_succ, i64_w, i32_w]
              rfl
            refine one_ (i := 7) (N := some 10) #[true, true, true, true, true, true, true, true, false] rfl rfl (one_of HT_.out (by kernel_rfl)) (by decide) (fun K hK => ?_)
            refine value_ (w1 := ?_) (v := ?_) (by rfl) rfl ?_ ?_
            rotate_left 2
            · go_simp
              constructor
              · rfl
              · rfl
            refine hK.out _ _ trivial (fun hHeld => ?_)
            clear hK K
            refine norm_ (a' := ?_) ?_ ?_
            rotate_left
            · show Act.put _ (some 10) _ = _
              simp only [Act.put, List.setIfInBounds_toArray, List.set_cons_zero, List.set_cons_succ, i64_w, i32_w]
              rfl
            have n0_ := Aside0.mk (show Kd.R (Kd.int .u64) 36 (World.alloc w9 (.cells #[.int .u64 0, .slice none 0 0, .slice none 0 0] 53 (0, 0))) wq.heap.size (fun _ => True) (.slice Az zs.length cz) zs from Kd.R_alloc HZ.out _)
            have n1_ := Aside0.mk (show Kd.R (Kd.int .u8) 5 (World.alloc w9 (.cells #[.int .u64 0, .slice none 0 0, .slice none 0 0] 53 (0, 0))) wq.heap.size (fun _ => True) (.slice Ab bs.length cb) bs from Kd.R_alloc HBY.out _)
            have n2_ := Aside0.mk (show (World.alloc w9 (.cells #[.int .u64 0, .slice none 0 0, .slice none 0 0] 53 (0, 0))).heap[w9.heap.size]? = some (.cells #[.int .u64 0, .slice none 0 0, .slice none 0 0] 53 (0, 0)) from blk_new _ _)
            have n3_ := Aside0.mk (show wq.heap.size ≤ w9.heap.size from HQ.out.size)
            have n4_ := Aside0.mk (show Below wq.heap.size wq (World.alloc w9 (.cells #[.int .u64 0, .slice none 0 0, .slice none 0 0] 53 (0, 0))) from below_alloc HQ.out _)
            generalize hw_ : (World.alloc w9 (.cells #[.int .u64 0, .slice none 0 0, .slice none 0 0] 53 (0, 0))) = wb at n0_ n1_ n2_ n3_ n4_ ⊢
            clear hw_
            generalize hg_ : w9.heap.size = gA at n2_ n3_ ⊢
            clear hg_
            clear HQ HZ HBY
            have HZ := n0_
            have HBY := n1_
            have BKA := n2_
            have GEA := n3_
            have HQ := n4_
            clear n0_ n1_ n2_ n3_ n4_
            have hz0 : wb.cell? ⟨gA, 0, none⟩ = some (.int .u64 0) := (blk_cell BKA.out 0).trans rfl
            have hz1 : wb.cell? ⟨gA, 1, none⟩ = some (.slice none 0 0) := (blk_cell BKA.out 1).trans rfl
            have hz2 : wb.cell? ⟨gA, 2, none⟩ = some (.slice none 0 0) := (blk_cell BKA.out 2).trans rfl
            have hf0 := blk_frozen BKA.out 0
            have hf1 := blk_frozen BKA.out 1
            have hf2 := blk_frozen BKA.out 2
            refine last_ (i := 8) (N := none) #[true, true, true, true, true, true, true, true, true] rfl rfl (one_of HT_.out (by kernel_rfl)) (by decide) (fun K hK => ?_)
            refine skip_ (w1 := ?_) (by rfl) rfl ?_ ?_
            rotate_left
            · go_simp
              rfl
            refine hK.out _ _ ?_
            clear hK K
            refine done_ (done_of HT_.out (by kernel_rfl)) ?_
            have hneZ := Kd.R_ne HZ.out BKA.out (by decide)
            have hneY := Kd.R_ne HBY.out BKA.out (by decide)
            have m0_ := Aside0.mk (show (((wb.setCell ⟨gA, 0, none⟩ (.int .u64 cls)).setCell ⟨gA, 1, none⟩ (.slice Az zs.length cz)).setCell ⟨gA, 2, none⟩ (.slice Ab bs.length cb)).heap[gA]? = some (.cells #[.int .u64 cls, .slice Az zs.length cz, .slice Ab bs.length cb] 53 (0, 0)) from blk_put (cs := #[.int .u64 cls, .slice Az zs.length cz, .slice none 0 0]) (blk_put (cs := #[.int .u64 cls, .slice none 0 0, .slice none 0 0]) (blk_put (cs := #[.int .u64 0, .slice none 0 0, .slice none 0 0]) BKA.out 0 _ rfl) 1 _ rfl) 2 _ rfl)
            have m1_ := Aside0.mk (show Kd.R (Kd.int .u64) 36 (((wb.setCell ⟨gA, 0, none⟩ (.int .u64 cls)).setCell ⟨gA, 1, none⟩ (.slice Az zs.length cz)).setCell ⟨gA, 2, none⟩ (.slice Ab bs.length cb)) wq.heap.size (fun _ => True) (.slice Az zs.length cz) zs from R_put (R_put (R_put HZ.out rfl hneZ _ _) rfl hneZ _ _) rfl hneZ _ _)
            have m2_ := Aside0.mk (show Kd.R (Kd.int .u8) 5 (((wb.setCell ⟨gA, 0, none⟩ (.int .u64 cls)).setCell ⟨gA, 1, none⟩ (.slice Az zs.length cz)).setCell ⟨gA, 2, none⟩ (.slice Ab bs.length cb)) wq.heap.size (fun _ => True) (.slice Ab bs.length cb) bs from R_put (R_put (R_put HBY.out rfl hneY _ _) rfl hneY _ _) rfl hneY _ _)
            have m3_ := Aside0.mk (show Below wq.heap.size wq (((wb.setCell ⟨gA, 0, none⟩ (.int .u64 cls)).setCell ⟨gA, 1, none⟩ (.slice Az zs.length cz)).setCell ⟨gA, 2, none⟩ (.slice Ab bs.length cb)) from (Below.setCell (Below.setCell (Below.setCell HQ.out (p := ⟨gA, 0, none⟩) GEA.out _) (p := ⟨gA, 1, none⟩) GEA.out _) (p := ⟨gA, 2, none⟩) GEA.out _))
            go_wp2
            go_meet
            case rel => exact ⟨gA, Az, cz, Ab, cb, rfl, m0_, GEA, m1_, m2_, m3_⟩
          · refine value_ (w1 := ?_) (v := ?_) (by rfl) rfl ?_ ?_
            rotate_left 2
            · go_simp
              constructor
              · rfl
              · rfl
            refine hK.out _ _ trivial (fun hHeld => ?_)
            clear hK K
            refine norm_ (a' := ?_) ?_ ?_
            rotate_left
            · show Act.put _ (some 10) _ = _
              simp only [Act.put, List.setIfInBounds_toArray, List.set_cons_zero, List.set_cons_succ, i64_w, i32_w]
              rfl
            have n0_ := Aside0.mk (show Kd.R (Kd.int .u64) 36 (World.alloc w9 (.cells #[.int .u64 0, .slice none 0 0, .slice none 0 0] 53 (0, 0))) wq.heap.size (fun _ => True) (.slice Az zs.length cz) zs from Kd.R_alloc HZ.out _)
            have n1_ := Aside0.mk (show Kd.R (Kd.int .u8) 5 (World.alloc w9 (.cells #[.int .u64 0, .slice none 0 0, .slice none 0 0] 53 (0, 0))) wq.heap.size (fun _ => True) vl [] from Kd.R_alloc HLE.out _)
            have n2_ := Aside0.mk (show (World.alloc w9 (.cells #[.int .u64 0, .slice none 0 0, .slice none 0 0] 53 (0, 0))).heap[w9.heap.size]? = some (.cells #[.int .u64 0, .slice none 0 0, .slice none 0 0] 53 (0, 0)) from blk_new _ _)
            have n3_ := Aside0.mk (show wq.heap.size ≤ w9.heap.size from HQ.out.size)
            have n4_ := Aside0.mk (show Below wq.heap.size wq (World.alloc w9 (.cells #[.int .u64 0, .slice none 0 0, .slice none 0 0] 53 (0, 0))) from below_alloc HQ.out _)
            generalize hw_ : (World.alloc w9 (.cells #[.int .u64 0, .slice none 0 0, .slice none 0 0] 53 (0, 0))) = wb at n0_ n1_ n2_ n3_ n4_ ⊢
            clear hw_
            generalize hg_ : w9.heap.size = gA at n2_ n3_ ⊢
            clear hg_
            clear HQ HZ HLE
            have HZ := n0_
            have HLE := n1_
            have BKA := n2_
            have GEA := n3_
            have HQ := n4_
            clear n0_ n1_ n2_ n3_ n4_
            refine one_ (i := 5) (N := some 35) #[true, true, true, true, true, true, false, true, false] rfl rfl (one_of HT_.out (by kernel_rfl)) (by decide) (fun K hK => ?_)
            refine Kd.R_append_rows_step (Kd.int .u8) (w0 := wq) wq.heap.size (by rfl) (.tmp 33) (.tmp 34) 51 5 (.int .u8 0) 1 rfl Try.underlying51 info5_ rfl (by decide) (by omega) vl [] bs _ _ _ (fun _ => True) (fun _ => False) rfl rfl ?aO ?aR (fun _ _ h => h) (fun _ h => h.elim) ?aF ?aB ?aS ?aL ?_
            (case aO => exact HLE.out)
            (case aR => exact Kd.C_below HVB.out (by repeat (first | (with_reducible first | exact HQ.out | apply below_alloc | apply pw_below_drewN | apply below_drew1) | exact HQ.out)))
            (case aF => exact fun _ _ => trivial)
            (case aB => exact (by repeat (first | (with_reducible first | exact HQ.out | apply below_alloc | apply pw_below_drewN | apply below_drew1) | exact HQ.out)))
            (case aS => exact below_size (by repeat (first | (with_reducible first | exact HQ.out | apply below_alloc | apply pw_below_drewN | apply below_drew1) | exact HQ.out)))
            (case aL => simp only [List.length_nil]; omega)
            intro vb w9 ho hb hg hat
            rw [List.nil_append] at ho
            have n0_ := Aside0.mk (Kd.R_over' HZ.out (Kd.R_typed HLE.out) (by decide) hg)
            have n1_ := Aside0.mk (blk_grown BKA.out hg (Kd.R_ne HLE.out BKA.out (by decide)))
            have n2_ := Aside0.mk (ho)
            have n3_ := Aside0.mk (hb)
            clear HZ BKA HQ HLE ho hb hg hat
            have HZ := n0_
            have BKA := n1_
            have HBY := n2_
            have HQ := n3_
            clear n0_ n1_ n2_ n3_
            obtain ⟨Ab, cb, eb⟩ := Kd.R_slice HBY.out
            subst eb
            refine hK.out _ _ trivial (fun hHeld => ?_)
            clear hK K
            refine norm_ (a' := ?_) ?_ ?_
            rotate_left
            · show Act.put _ (some 35) _ = _
              simp only [Act.put, List.setIfInBounds_toArray, List.set_cons_zero, List.set_cons_succ, i64_w, i32_w]
              rfl
            refine pure_ (i := 6) (N := some 36) (v := ?_) (a' := ?_) #[true, true, true, true, true, true, true, true, false] rfl rfl (any_of HT_.out (by kernel_rfl)) (fun _ _ _ h => h) (Or.inl ⟨by rfl, ?_⟩) ?_ ?_
            rotate_left
            · intro w'
              go_simp
              with_reducible rfl
            rotate_left
            · simp only [Act.put, List.setIfInBounds_toArray, List.set_cons_zero, List.set_cons_succ, i64_w, i32_w]
              rfl
            have hz0 : w9.cell? ⟨gA, 0, none⟩ = some (.int .u64 0) := (blk_cell BKA.out 0).trans rfl
            have hz1 : w9.cell? ⟨gA, 1, none⟩ = some (.slice none 0 0) := (blk_cell BKA.out 1).trans rfl
            have hz2 : w9.cell? ⟨gA, 2, none⟩ = some (.slice none 0 0) := (blk_cell BKA.out 2).trans rfl
            have hf0 := blk_frozen BKA.out 0
            have hf1 := blk_frozen BKA.out 1
            have hf2 := blk_frozen BKA.out 2
            refine last_ (i := 8) (N := none) #[true, true, true, true, true, true, true, true, true] rfl rfl (one_of HT_.out (by kernel_rfl)) (by decide) (fun K hK => ?_)
            refine skip_ (w1 := ?_) (by rfl) rfl ?_ ?_
            rotate_left
            · go_simp
              rfl
            refine hK.out _ _ ?_
            clear hK K
            refine done_ (done_of HT_.out (by kernel_rfl)) ?_
            have hneZ := Kd.R_ne HZ.out BKA.out (by decide)
            have hneY := Kd.R_ne HBY.out BKA.out (by decide)
            have m0_ := Aside0.mk (show (((w9.setCell ⟨gA, 0, none⟩ (.int .u64 cls)).setCell ⟨gA, 1, none⟩ (.slice Az zs.length cz)).setCell ⟨gA, 2, none⟩ (.slice Ab bs.length cb)).heap[gA]? = some (.cells #[.int .u64 cls, .slice Az zs.length cz, .slice Ab bs.length cb] 53 (0, 0)) from blk_put (cs := #[.int .u64 cls, .slice Az zs.length cz, .slice none 0 0]) (blk_put (cs := #[.int .u64 cls, .slice none 0 0, .slice none 0 0]) (blk_put (cs := #[.int .u64 0, .slice none 0 0, .slice none 0 0]) BKA.out 0 _ rfl) 1 _ rfl) 2 _ rfl)
            have m1_ := Aside0.mk (show Kd.R (Kd.int .u64) 36 (((w9.setCell ⟨gA, 0, none⟩ (.int .u64 cls)).setCell ⟨gA, 1, none⟩ (.slice Az zs.length cz)).setCell ⟨gA, 2, none⟩ (.slice Ab bs.length cb)) wq.heap.size (fun _ => True) (.slice Az zs.length cz) zs from R_put (R_put (R_put HZ.out rfl hneZ _ _) rfl hneZ _ _) rfl hneZ _ _)
            have m2_ := Aside0.mk (show Kd.R (Kd.int .u8) 5 (((w9.setCell ⟨gA, 0, none⟩ (.int .u64 cls)).setCell ⟨gA, 1, none⟩ (.slice Az zs.length cz)).setCell ⟨gA, 2, none⟩ (.slice Ab bs.length cb)) wq.heap.size (fun _ => True) (.slice Ab bs.length cb) bs from R_put (R_put (R_put HBY.out rfl hneY _ _) rfl hneY _ _) rfl hneY _ _)
            have m3_ := Aside0.mk (show Below wq.heap.size wq (((w9.setCell ⟨gA, 0, none⟩ (.int .u64 cls)).setCell ⟨gA, 1, none⟩ (.slice Az zs.length cz)).setCell ⟨gA, 2, none⟩ (.slice Ab bs.length cb)) from (Below.setCell (Below.setCell (Below.setCell HQ.out (p := ⟨gA, 0, none⟩) GEA.out _) (p := ⟨gA, 1, none⟩) GEA.out _) (p := ⟨gA, 2, none⟩) GEA.out _))
            go_wp2
            go_meet
            case rel => exact ⟨gA, Az, cz, Ab, cb, rfl, m0_, GEA, m1_, m2_, m3_⟩
        · refine value_ (w1 := ?_) (v := ?_) (by rfl) rfl ?_ ?_
          rotate_left 2
          · go_simp
            constructor
            · rfl
            · rfl
          refine hK.out _ _ trivial (fun hHeld => ?_)
          clear hK K
          refine norm_ (a' := ?_) ?_ ?_
          rotate_left
          · show Act.put _ (some 10) _ = _
            simp only [Act.put, List.setIfInBounds_toArray, List.set_cons_zero, List.set_cons_succ, i64_w, i32_w]
            rfl
          have n0_ := Aside0.mk (show Kd.R (Kd.int .u64) 36 (World.alloc w9 (.cells #[.int .u64 0, .slice none 0 0, .slice none 0 0] 53 (0, 0))) wq.heap.size (fun _ => True) (.slice Az zs.length cz) zs from Kd.R_alloc HZ.out _)
          have n1_ := Aside0.mk (show (World.alloc w9 (.cells #[.int .u64 0, .slice none 0 0, .slice none 0 0] 53 (0, 0))).heap[w9.heap.size]? = some (.cells #[.int .u64 0, .slice none 0 0, .slice none 0 0] 53 (0, 0)) from blk_new _ _)
          have n2_ := Aside0.mk (show wq.heap.size ≤ w9.heap.size from HQ.out.size)
          have n3_ := Aside0.mk (show Below wq.heap.size wq (World.alloc w9 (.cells #[.int .u64 0, .slice none 0 0, .slice none 0 0] 53 (0, 0))) from below_alloc HQ.out _)
          generalize hw_ : (World.alloc w9 (.cells #[.int .u64 0, .slice none 0 0, .slice none 0 0] 53 (0, 0))) = wb at n0_ n1_ n2_ n3_ ⊢
          clear hw_
          generalize hg_ : w9.heap.size = gA at n1_ n2_ ⊢
          clear hg_
          clear HQ HZ
          have HZ := n0_
          have BKA := n1_
          have GEA := n2_
          have HQ := n3_
          clear n0_ n1_ n2_ n3_
          refine one_ (i := 3) (N := some 33) #[true, true, true, true, true, false, false, true, false] rfl rfl (one_of HT_.out (by kernel_rfl)) (by decide) (fun K hK => ?_)
          refine Kd.R_lit_step (Kd.int .u8) _ 5 ?hg (N := 33) ?hd (xs := ([] : List Int)) (inner := []) (ok := fun _ => True) (okp := fun _ => True) ?hr ?hp (fun _ hk => hk) trivial (Below.refl _ _) (Nat.le_refl _) (by simp) ?_; (case hd => rfl); (case hg => rfl); (case hr => first | (go_simp; done) | (go_simp; rfl)); (case hp => exact Reps.none _ _)
          intro vl w9 ho1 hb hg_ hat_
          clear hg_ hat_
          have n0_ := Aside0.mk (Kd.R_below HZ.out hb)
          have n1_ := Aside0.mk (blk_below BKA.out hb)
          have n2_ := Aside0.mk (Kd.R_lower ho1 (below_size (by repeat (first | (with_reducible first | exact HQ.out | apply below_alloc | apply pw_below_drewN | apply below_drew1) | exact HQ.out))))
          have n3_ := Aside0.mk (below_step (by repeat (first | (with_reducible first | exact HQ.out | apply below_alloc | apply pw_below_drewN | apply below_drew1) | exact HQ.out)) hb)
          clear HZ BKA HQ ho1 hb
          have HZ := n0_
          have BKA := n1_
          have HLE := n2_
          have HQ := n3_
          clear n0_ n1_ n2_ n3_
          refine hK.out _ _ trivial (fun hHeld => ?_)
          clear hK K
          refine norm_ (a' := ?_) ?_ ?_
          rotate_left
          · show Act.put _ (some 33) _ = _
            simp only [Act.put, List.setIfInBounds_toArray, List.set_cons_zero, List.set_cons_succ, i64_w, i32_w]
            rfl
          refine one_ (i := 5) (N := some 35) #[true, true, true, true, true, true, false, true, false] rfl rfl (one_of HT_.out (by kernel_rfl)) (by decide) (fun K hK => ?_)
          refine Kd.R_append_rows_step (Kd.int .u8) (w0 := wq) wq.heap.size (by rfl) (.tmp 33) (.tmp 34) 51 5 (.int .u8 0) 1 rfl Try.underlying51 info5_ rfl (by decide) (by omega) vl [] bs _ _ _ (fun _ => True) (fun _ => False) rfl rfl ?aO ?aR (fun _ _ h => h) (fun _ h => h.elim) ?aF ?aB ?aS ?aL ?_
          (case aO => exact HLE.out)
          (case aR => exact Kd.C_below HVB.out (by repeat (first | (with_reducible first | exact HQ.out | apply below_alloc | apply pw_below_drewN | apply below_drew1) | exact HQ.out)))
          (case aF => exact fun _ _ => trivial)
          (case aB => exact (by repeat (first | (with_reducible first | exact HQ.out | apply below_alloc | apply pw_below_drewN | apply below_drew1) | exact HQ.out)))
          (case aS => exact below_size (by repeat (first | (with_reducible first | exact HQ.out | apply below_alloc | apply pw_below_drewN | apply below_drew1) | exact HQ.out)))
          (case aL => simp only [List.length_nil]; omega)
          intro vb w9 ho hb hg hat
          rw [List.nil_append] at ho
          have n0_ := Aside0.mk (Kd.R_over' HZ.out (Kd.R_typed HLE.out) (by decide) hg)
          have n1_ := Aside0.mk (blk_grown BKA.out hg (Kd.R_ne HLE.out BKA.out (by decide)))
          have n2_ := Aside0.mk (ho)
          have n3_ := Aside0.mk (hb)
          clear HZ BKA HQ HLE ho hb hg hat
          have HZ := n0_
          have BKA := n1_
          have HBY := n2_
          have HQ := n3_
          clear n0_ n1_ n2_ n3_
          obtain ⟨Ab, cb, eb⟩ := Kd.R_slice HBY.out
          subst eb
          refine hK.out _ _ trivial (fun hHeld => ?_)
          clear hK K
          refine norm_ (a' := ?_) ?_ ?_
          rotate_left
          · show Act.put _ (some 35) _ = _
            simp only [Act.put, List.setIfInBounds_toArray, List.set_cons_zero, List.set_cons_succ, i64_w, i32_w]
            rfl
          refine pure_ (i := 6) (N := some 36) (v := ?_) (a' := ?_) #[true, true, true, true, true, true, true, true, false] rfl rfl (any_of HT_.out (by kernel_rfl)) (fun _ _ _ h => h) (Or.inl ⟨by rfl, ?_⟩) ?_ ?_
          rotate_left
          · intro w'
            go_simp
            with_reducible rfl
          rotate_left
          · simp only [Act.put, List.setIfInBounds_toArray, List.set_cons_zero, List.set_cons_succ, i64_w, i32_w]
            rfl
          have hz0 : w9.cell? ⟨gA, 0, none⟩ = some (.int .u64 0) := (blk_cell BKA.out 0).trans rfl
          have hz1 : w9.cell? ⟨gA, 1, none⟩ = some (.slice none 0 0) := (blk_cell BKA.out 1).trans rfl
          have hz2 : w9.cell? ⟨gA, 2, none⟩ = some (.slice none 0 0) := (blk_cell BKA.out 2).trans rfl
          have hf0 := blk_frozen BKA.out 0
          have hf1 := blk_frozen BKA.out 1
          have hf2 := blk_frozen BKA.out 2
          refine last_ (i := 8) (N := none) #[true, true, true, true, true, true, true, true, true] rfl rfl (one_of HT_.out (by kernel_rfl)) (by decide) (fun K hK => ?_)
          refine skip_ (w1 := ?_) (by rfl) rfl ?_ ?_
          rotate_left
          · go_simp
            rfl
          refine hK.out _ _ ?_
          clear hK K
          refine done_ (done_of HT_.out (by kernel_rfl)) ?_
          have hneZ := Kd.R_ne HZ.out BKA.out (by decide)
          have hneY := Kd.R_ne HBY.out BKA.out (by decide)
          have m0_ := Aside0.mk (show (((w9.setCell ⟨gA, 0, none⟩ (.int .u64 cls)).setCell ⟨gA, 1, none⟩ (.slice Az zs.length cz)).setCell ⟨gA, 2, none⟩ (.slice Ab bs.length cb)).heap[gA]? = some (.cells #[.int .u64 cls, .slice Az zs.length cz, .slice Ab bs.length cb] 53 (0, 0)) from blk_put (cs := #[.int .u64 cls, .slice Az zs.length cz, .slice none 0 0]) (blk_put (cs := #[.int .u64 cls, .slice none 0 0, .slice none 0 0]) (blk_put (cs := #[.int .u64 0, .slice none 0 0, .slice none 0 0]) BKA.out 0 _ rfl) 1 _ rfl) 2 _ rfl)
          have m1_ := Aside0.mk (show Kd.R (Kd.int .u64) 36 (((w9.setCell ⟨gA, 0, none⟩ (.int .u64 cls)).setCell ⟨gA, 1, none⟩ (.slice Az zs.length cz)).setCell ⟨gA, 2, none⟩ (.slice Ab bs.length cb)) wq.heap.size (fun _ => True) (.slice Az zs.length cz) zs from R_put (R_put (R_put HZ.out rfl hneZ _ _) rfl hneZ _ _) rfl hneZ _ _)
          have m2_ := Aside0.mk (show Kd.R (Kd.int .u8) 5 (((w9.setCell ⟨gA, 0, none⟩ (.int .u64 cls)).setCell ⟨gA, 1, none⟩ (.slice Az zs.length cz)).setCell ⟨gA, 2, none⟩ (.slice Ab bs.length cb)) wq.heap.size (fun _ => True) (.slice Ab bs.length cb) bs from R_put (R_put (R_put HBY.out rfl hneY _ _) rfl hneY _ _) rfl hneY _ _)
          have m3_ := Aside0.mk (show Below wq.heap.size wq (((w9.setCell ⟨gA, 0, none⟩ (.int .u64 cls)).setCell ⟨gA, 1, none⟩ (.slice Az zs.length cz)).setCell ⟨gA, 2, none⟩ (.slice Ab bs.length cb)) from (Below.setCell (Below.setCell (Below.setCell HQ.out (p := ⟨gA, 0, none⟩) GEA.out _) (p := ⟨gA, 1, none⟩) GEA.out _) (p := ⟨gA, 2, none⟩) GEA.out _))
          go_wp2
          go_meet
          case rel => exact ⟨gA, Az, cz, Ab, cb, rfl, m0_, GEA, m1_, m2_, m3_⟩
      · refine Kd.R_lit_step (Kd.int .u8) _ 5 ?hg (N := 33) ?hd (xs := ([] : List Int)) (inner := []) (ok := fun _ => True) (okp := fun _ => True) ?hr ?hp (fun _ hk => hk) trivial (Below.refl _ _) (Nat.le_refl _) (by simp) ?_; (case hd => rfl); (case hg => rfl); (case hr => first | (go_simp; done) | (go_simp; rfl)); (case hp => exact Reps.none _ _)
        intro vl w9 ho1 hb hg_ hat_
        clear hg_ hat_
        have n0_ := Aside0.mk (Kd.R_lower ho1 (below_size (by repeat (first | (with_reducible first | exact HQ.out | apply below_alloc | apply pw_below_drewN | apply below_drew1) | exact HQ.out))))
        have n1_ := Aside0.mk (below_step (by repeat (first | (with_reducible first | exact HQ.out | apply below_alloc | apply pw_below_drewN | apply below_drew1) | exact HQ.out)) hb)
        clear  HQ ho1 hb
        have HLE := n0_
        have HQ := n1_
        clear n0_ n1_
        refine hK.out _ _ trivial (fun hHeld => ?_)
        clear hK K
        refine norm_ (a' := ?_) ?_ ?_
        rotate_left
        · show Act.put _ (some 33) _ = _
          simp only [Act.put, List.setIfInBounds_toArray, List.set_cons_zero, List.set_cons_succ, i64_w, i32_w]
          rfl
        refine three_ (i := 2) (j := 5) (k := 7) (Ni := some 32) (Nj := some 35) (Nk := some 10) #[true, true, true, true, true, false, false, false, false] #[true, true, false, true, true, true, false, false, false] #[true, true, false, true, true, false, false, true, false] rfl rfl rfl rfl rfl rfl (three_of HT_.out (by kernel_rfl)) (by decide) (by decide) (by decide) (fun K hK => ?_) (fun K hK => ?_) (fun K hK => ?_)
        · refine Kd.R_make_step (Kd.int .u64) _ 36 ?hg (N := 32) ?hd 50 (.tmp 31) (.tmp 31) ?ho slots ?hx ?hy Try.underlying50 (.int .u64 0) 8 info36r_ rfl (by decide) (by decide) 0 (ok := fun _ => True) (okp := fun _ => True) rfl (fun _ h => h) trivial s0 (by omega) (Below.refl _ _) (Nat.le_refl _) ?_; (case hg => rfl); (case hd => rfl); (case ho => rfl); (case hx => rfl); (case hy => rfl)
          intro v1 w9 ho1 hb hg_ hat_
          clear hg_ hat_
          rw [HZS.out] at ho1
          have n0_ := Aside0.mk (Kd.R_below HLE.out hb)
          have n1_ := Aside0.mk (Kd.R_lower ho1 (below_size (by repeat (first | (with_reducible first | exact HQ.out | apply below_alloc | apply pw_below_drewN | apply below_drew1) | exact HQ.out))))
          have n2_ := Aside0.mk (below_step (by repeat (first | (with_reducible first | exact HQ.out | apply below_alloc | apply pw_below_drewN | apply below_drew1) | exact HQ.out)) hb)
          clear HLE HQ ho1 hb
          have HLE := n0_
          have HZ := n1_
          have HQ := n2_
          clear n0_ n1_ n2_
          obtain ⟨Az, cz, ez⟩ := Kd.R_slice HZ.out
          subst ez
          refine hK.out _ _ trivial (fun hHeld => ?_)
          clear hK K
          refine norm_ (a' := ?_) ?_ ?_
          rotate_left
          · show Act.put _ (some 32) _ = _
            simp only [Act.put, List.setIfInBounds_toArray, List.set_cons_zero, List.set_cons_succ, i64_w, i32_w]
            rfl
          refine two_ (i := 5) (j := 7) (Ni := some 35) (Nj := some 10) #[true, true, true, true, true, true, false, false, false] #[true, true, true, true, true, false, false, true, false] rfl rfl rfl rfl (two_of HT_.out (by kernel_rfl)) (by decide) (by decide) (fun K hK => ?_) (fun K hK => ?_)
          · refine Kd.R_append_rows_step (Kd.int .u8) (w0 := wq) wq.heap.size (by rfl) (.tmp 33) (.tmp 34) 51 5 (.int .u8 0) 1 rfl Try.underlying51 info5_ rfl (by decide) (by omega) vl [] bs _ _ _ (fun _ => True) (fun _ => False) rfl rfl ?aO ?aR (fun _ _ h => h) (fun _ h => h.elim) ?aF ?aB ?aS ?aL ?_
            (case aO => exact HLE.out)
            (case aR => exact Kd.C_below HVB.out (by repeat (first | (with_reducible first | exact HQ.out | apply below_alloc | apply pw_below_drewN | apply below_drew1) | exact HQ.out)))
            (case aF => exact fun _ _ => trivial)
            (case aB => exact (by repeat (first | (with_reducible first | exact HQ.out | apply below_alloc | apply pw_below_drewN | apply below_drew1) | exact HQ.out)))
            (case aS => exact below_size (by repeat (first | (with_reducible first | exact HQ.out | apply below_alloc | apply pw_below_drewN | apply below_drew1) | exact HQ.out)))
            (case aL => simp only [List.length_nil]; omega)
            intro vb w9 ho hb hg hat
            rw [List.nil_append] at ho
            have n0_ := Aside0.mk (Kd.R_over' HZ.out (Kd.R_typed HLE.out) (by decide) hg)
            have n1_ := Aside0.mk (ho)
            have n2_ := Aside0.mk (hb)
            clear HZ HQ HLE ho hb hg hat
            have HZ := n0_
            have HBY := n1_
            have HQ := n2_
            clear n0_ n1_ n2_
            obtain ⟨Ab, cb, eb⟩ := Kd.R_slice HBY.out
            subst eb
            refine hK.out _ _ trivial (fun hHeld => ?_)
            clear hK K
            refine norm_ (a' := ?_) ?_ ?_
            rotate_left
            · show Act.put _ (some 35) _ = _
              simp only [Act.put, List.setIfInBounds_toArray, List.set_cons_zero, List.set_cons_succ, i64_w, i32_w]
              rfl
            refine pure_ (i := 6) (N := some 36) (v := ?_) (a' := ?_) #[true, true, true, true, true, true, true, false, false] rfl rfl (any_of HT_.out (by kernel_rfl)) (fun _ _ _ h => h) (Or.inl ⟨by rfl, ?_⟩) ?_ ?_
            rotate_left
            · intro w'
              go_simp
              with_reducible rfl
            rotate_left
            · simp only [Act.put, List.setIfInBounds_toArray, List.set_cons_zero, List.set_cons_succ, i64_w, i32_w]
              rfl
            refine one_ (i := 7) (N := some 10) #[true, true, true, true, true, true, true, true, false] rfl rfl (one_of HT_.out (by kernel_rfl)) (by decide) (fun K hK => ?_)
            refine value_ (w1 := ?_) (v := ?_) (by rfl) rfl ?_ ?_
            rotate_left 2
            · go_simp
              constructor
              · rfl
              · rfl
            refine hK.out _ _ trivial (fun hHeld => ?_)
            clear hK K
            refine norm_ (a' := ?_) ?_ ?_
            rotate_left
            · show Act.put _ (some 10) _ = _
              simp only [Act.put, List.setIfInBounds_toArray, List.set_cons_zero, List.set_cons_succ, i64_w, i32_w]
              rfl
            have n0_ := Aside0.mk (show Kd.R (Kd.int .u64) 36 (World.alloc w9 (.cells #[.int .u64 0, .slice none 0 0, .slice none 0 0] 53 (0, 0))) wq.heap.size (fun _ => True) (.slice Az zs.length cz) zs from Kd.R_alloc HZ.out _)
            have n1_ := Aside0.mk (show Kd.R (Kd.int .u8) 5 (World.alloc w9 (.cells #[.int .u64 0, .slice none 0 0, .slice none 0 0] 53 (0, 0))) wq.heap.size (fun _ => True) (.slice Ab bs.length cb) bs from Kd.R_alloc HBY.out _)
            have n2_ := Aside0.mk (show (World.alloc w9 (.cells #[.int .u64 0, .slice none 0 0, .slice none 0 0] 53 (0, 0))).heap[w9.heap.size]? = some (.cells #[.int .u64 0, .slice none 0 0, .slice none 0 0] 53 (0, 0)) from blk_new _ _)
            have n3_ := Aside0.mk (show wq.heap.size ≤ w9.heap.size from HQ.out.size)
            have n4_ := Aside0.mk (show Below wq.heap.size wq (World.alloc w9 (.cells #[.int .u64 0, .slice none 0 0, .slice none 0 0] 53 (0, 0))) from below_alloc HQ.out _)
            generalize hw_ : (World.alloc w9 (.cells #[.int .u64 0, .slice none 0 0, .slice none 0 0] 53 (0, 0))) = wb at n0_ n1_ n2_ n3_ n4_ ⊢
            clear hw_
            generalize hg_ : w9.heap.size = gA at n2_ n3_ ⊢
            clear hg_
            clear HQ HZ HBY
            have HZ := n0_
            have HBY := n1_
            have BKA := n2_
            have GEA := n3_
            have HQ := n4_
            clear n0_ n1_ n2_ n3_ n4_
            have hz0 : wb.cell? ⟨gA, 0, none⟩ = some (.int .u64 0) := (blk_cell BKA.out 0).trans rfl
            have hz1 : wb.cell? ⟨gA, 1, none⟩ = some (.slice none 0 0) := (blk_cell BKA.out 1).trans rfl
            have hz2 : wb.cell? ⟨gA, 2, none⟩ = some (.slice none 0 0) := (blk_cell BKA.out 2).trans rfl
            have hf0 := blk_frozen BKA.out 0
            have hf1 := blk_frozen BKA.out 1
            have hf2 := blk_frozen BKA.out 2
            refine last_ (i := 8) (N := none) #[true, true, true, true, true, true, true, true, true] rfl rfl (one_of HT_.out (by kernel_rfl)) (by decide) (fun K hK => ?_)
            refine skip_ (w1 := ?_) (by rfl) rfl ?_ ?_
            rotate_left
            · go_simp
              rfl
            refine hK.out _ _ ?_
            clear hK K
            refine done_ (done_of HT_.out (by kernel_rfl)) ?_
            have hneZ := Kd.R_ne HZ.out BKA.out (by decide)
            have hneY := Kd.R_ne HBY.out BKA.out (by decide)
            have m0_ := Aside0.mk (show (((wb.setCell ⟨gA, 0, none⟩ (.int .u64 cls)).setCell ⟨gA, 1, none⟩ (.slice Az zs.length cz)).setCell ⟨gA, 2, none⟩ (.slice Ab bs.length cb)).heap[gA]? = some (.cells #[.int .u64 cls, .slice Az zs.length cz, .slice Ab bs.length cb] 53 (0, 0)) from blk_put (cs := #[.int .u64 cls, .slice Az zs.length cz, .slice none 0 0]) (blk_put (cs := #[.int .u64 cls, .slice none 0 0, .slice none 0 0]) (blk_put (cs := #[.int .u64 0, .slice none 0 0, .slice none 0 0]) BKA.out 0 _ rfl) 1 _ rfl) 2 _ rfl)
            have m1_ := Aside0.mk (show Kd.R (Kd.int .u64) 36 (((wb.setCell ⟨gA, 0, none⟩ (.int .u64 cls)).setCell ⟨gA, 1, none⟩ (.slice Az zs.length cz)).setCell ⟨gA, 2, none⟩ (.slice Ab bs.length cb)) wq.heap.size (fun _ => True) (.slice Az zs.length cz) zs from R_put (R_put (R_put HZ.out rfl hneZ _ _) rfl hneZ _ _) rfl hneZ _ _)
            have m2_ := Aside0.mk (show Kd.R (Kd.int .u8) 5 (((wb.setCell ⟨gA, 0, none⟩ (.int .u64 cls)).setCell ⟨gA, 1, none⟩ (.slice Az zs.length cz)).setCell ⟨gA, 2, none⟩ (.slice Ab bs.length cb)) wq.heap.size (fun _ => True) (.slice Ab bs.length cb) bs from R_put (R_put (R_put HBY.out rfl hneY _ _) rfl hneY _ _) rfl hneY _ _)
            have m3_ := Aside0.mk (show Below wq.heap.size wq (((wb.setCell ⟨gA, 0, none⟩ (.int .u64 cls)).setCell ⟨gA, 1, none⟩ (.slice Az zs.length cz)).setCell ⟨gA, 2, none⟩ (.slice Ab bs.length cb)) from (Below.setCell (Below.setCell (Below.setCell HQ.out (p := ⟨gA, 0, none⟩) GEA.out _) (p := ⟨gA, 1, none⟩) GEA.out _) (p := ⟨gA, 2, none⟩) GEA.out _))
            go_wp2
            go_meet
            case rel => exact ⟨gA, Az, cz, Ab, cb, rfl, m0_, GEA, m1_, m2_, m3_⟩
          · refine value_ (w1 := ?_) (v := ?_) (by rfl) rfl ?_ ?_
            rotate_left 2
            · go_simp
              constructor
              · rfl
              · rfl
            refine hK.out _ _ trivial (fun hHeld => ?_)
            clear hK K
            refine norm_ (a' := ?_) ?_ ?_
            rotate_left
            · show Act.put _ (some 10) _ = _
              simp only [Act.put, List.setIfInBounds_toArray, List.set_cons_zero, List.set_cons_succ, i64_w, i32_w]
              rfl
            have n0_ := Aside0.mk (show Kd.R (Kd.int .u8) 5 (World.alloc w9 (.cells #[.int .u64 0, .slice none 0 0, .slice none 0 0] 53 (0, 0))) wq.heap.size (fun _ => True) vl [] from Kd.R_alloc HLE.out _)
            have n1_ := Aside0.mk (show Kd.R (Kd.int .u64) 36 (World.alloc w9 (.cells #[.int .u64 0, .slice none 0 0, .slice none 0 0] 53 (0, 0))) wq.heap.size (fun _ => True) (.slice Az zs.length cz) zs from Kd.R_alloc HZ.out _)
            have n2_ := Aside0.mk (show (World.alloc w9 (.cells #[.int .u64 0, .slice none 0 0, .slice none 0 0] 53 (0, 0))).heap[w9.heap.size]? = some (.cells #[.int .u64 0, .slice none 0 0, .slice none 0 0] 53 (0, 0)) from blk_new _ _)
            have n3_ := Aside0.mk (show wq.heap.size ≤ w9.heap.size from HQ.out.size)
            have n4_ := Aside0.mk (show Below wq.heap.size wq (World.alloc w9 (.cells #[.int .u64 0, .slice none 0 0, .slice none 0 0] 53 (0, 0))) from below_alloc HQ.out _)
            generalize hw_ : (World.alloc w9 (.cells #[.int .u64 0, .slice none 0 0, .slice none 0 0] 53 (0, 0))) = wb at n0_ n1_ n2_ n3_ n4_ ⊢
            clear hw_
            generalize hg_ : w9.heap.size = gA at n2_ n3_ ⊢
            clear hg_
            clear HQ HLE HZ
            have HLE := n0_
            have HZ := n1_
            have BKA := n2_
            have GEA := n3_
            have HQ := n4_
            clear n0_ n1_ n2_ n3_ n4_
            refine one_ (i := 5) (N := some 35) #[true, true, true, true, true, true, false, true, false] rfl rfl (one_of HT_.out (by kernel_rfl)) (by decide) (fun K hK => ?_)
            refine Kd.R_append_rows_step (Kd.int .u8) (w0 := wq) wq.heap.size (by rfl) (.tmp 33) (.tmp 34) 51 5 (.int .u8 0) 1 rfl Try.underlying51 info5_ rfl (by decide) (by omega) vl [] bs _ _ _ (fun _ => True) (fun _ => False) rfl rfl ?aO ?aR (fun _ _ h => h) (fun _ h => h.elim) ?aF ?aB ?aS ?aL ?_
            (case aO => exact HLE.out)
            (case aR => exact Kd.C_below HVB.out (by repeat (first | (with_reducible first | exact HQ.out | apply below_alloc | apply pw_below_drewN | apply below_drew1) | exact HQ.out)))
            (case aF => exact fun _ _ => trivial)
            (case aB => exact (by repeat (first | (with_reducible first | exact HQ.out | apply below_alloc | apply pw_below_drewN | apply below_drew1) | exact HQ.out)))
            (case aS => exact below_size (by repeat (first | (with_reducible first | exact HQ.out | apply below_alloc | apply pw_below_drewN | apply below_drew1) | exact HQ.out)))
            (case aL => simp only [List.length_nil]; omega)
            intro vb w9 ho hb hg hat
            rw [List.nil_append] at ho
            have n0_ := Aside0.mk (Kd.R_over' HZ.out (Kd.R_typed HLE.out) (by decide) hg)
            have n1_ := Aside0.mk (blk_grown BKA.out hg (Kd.R_ne HLE.out BKA.out (by decide)))
            have n2_ := Aside0.mk (ho)
            have n3_ := Aside0.mk (hb)
            clear HZ BKA HQ HLE ho hb hg hat
            have HZ := n0_
            have BKA := n1_
            have HBY := n2_
            have HQ := n3_
            clear n0_ n1_ n2_ n3_
            obtain ⟨Ab, cb, eb⟩ := Kd.R_slice HBY.out
            subst eb
            refine hK.out _ _ trivial (fun hHeld => ?_)
            clear hK K
            refine norm_ (a' := ?_) ?_ ?_
            rotate_left
            · show Act.put _ (some 35) _ = _
              simp only [Act.put, List.setIfInBounds_toArray, List.set_cons_zero, List.set_cons_succ, i64_w, i32_w]
              rfl
            refine pure_ (i := 6) (N := some 36) (v := ?_) (a' := ?_) #[true, true, true, true, true, true, true, true, false] rfl rfl (any_of HT_.out (by kernel_rfl)) (fun _ _ _ h => h) (Or.inl ⟨by rfl, ?_⟩) ?_ ?_
            rotate_left
            · intro w'
              go_simp
              with_reducible rfl
            rotate_left
            · simp only [Act.put, List.setIfInBounds_toArray, List.set_cons_zero, List.set_cons_succ, i64_w, i32_w]
              rfl
            have hz0 : w9.cell? ⟨gA, 0, none⟩ = some (.int .u64 0) := (blk_cell BKA.out 0).trans rfl
            have hz1 : w9.cell? ⟨gA, 1, none⟩ = some (.slice none 0 0) := (blk_cell BKA.out 1).trans rfl
            have hz2 : w9.cell? ⟨gA, 2, none⟩ = some (.slice none 0 0) := (blk_cell BKA.out 2).trans rfl
            have hf0 := blk_frozen BKA.out 0
            have hf1 := blk_frozen BKA.out 1
            have hf2 := blk_frozen BKA.out 2
            refine last_ (i := 8) (N := none) #[true, true, true, true, true, true, true, true, true] rfl rfl (one_of HT_.out (by kernel_rfl)) (by decide) (fun K hK => ?_)
            refine skip_ (w1 := ?_) (by rfl) rfl ?_ ?_
            rotate_left
            · go_simp
              rfl
            refine hK.out _ _ ?_
            clear hK K
            refine done_ (done_of HT_.out (by kernel_rfl)) ?_
            have hneZ := Kd.R_ne HZ.out BKA.out (by decide)
            have hneY := Kd.R_ne HBY.out BKA.out (by decide)
            have m0_ := Aside0.mk (show (((w9.setCell ⟨gA, 0, none⟩ (.int .u64 cls)).setCell ⟨gA, 1, none⟩ (.slice Az zs.length cz)).setCell ⟨gA, 2, none⟩ (.slice Ab bs.length cb)).heap[gA]? = some (.cells #[.int .u64 cls, .slice Az zs.length cz, .slice Ab bs.length cb] 53 (0, 0)) from blk_put (cs := #[.int .u64 cls, .slice Az zs.length cz, .slice none 0 0]) (blk_put (cs := #[.int .u64 cls, .slice none 0 0, .slice none 0 0]) (blk_put (cs := #[.int .u64 0, .slice none 0 0, .slice none 0 0]) BKA.out 0 _ rfl) 1 _ rfl) 2 _ rfl)
            have m1_ := Aside0.mk (show Kd.R (Kd.int .u64) 36 (((w9.setCell ⟨gA, 0, none⟩ (.int .u64 cls)).setCell ⟨gA, 1, none⟩ (.slice Az zs.length cz)).setCell ⟨gA, 2, none⟩ (.slice Ab bs.length cb)) wq.heap.size (fun _ => True) (.slice Az zs.length cz) zs from R_put (R_put (R_put HZ.out rfl hneZ _ _) rfl hneZ _ _) rfl hneZ _ _)
            have m2_ := Aside0.mk (show Kd.R (Kd.int .u8) 5 (((w9.setCell ⟨gA, 0, none⟩ (.int .u64 cls)).setCell ⟨gA, 1, none⟩ (.slice Az zs.length cz)).setCell ⟨gA, 2, none⟩ (.slice Ab bs.length cb)) wq.heap.size (fun _ => True) (.slice Ab bs.length cb) bs from R_put (R_put (R_put HBY.out rfl hneY _ _) rfl hneY _ _) rfl hneY _ _)
            have m3_ := Aside0.mk (show Below wq.heap.size wq (((w9.setCell ⟨gA, 0, none⟩ (.int .u64 cls)).setCell ⟨gA, 1, none⟩ (.slice Az zs.length cz)).setCell ⟨gA, 2, none⟩ (.slice Ab bs.length cb)) from (Below.setCell (Below.setCell (Below.setCell HQ.out (p := ⟨gA, 0, none⟩) GEA.out _) (p := ⟨gA, 1, none⟩) GEA.out _) (p := ⟨gA, 2, none⟩) GEA.out _))
            go_wp2
            go_meet
            case rel => exact ⟨gA, Az, cz, Ab, cb, rfl, m0_, GEA, m1_, m2_, m3_⟩
        · refine Kd.R_append_rows_step (Kd.int .u8) (w0 := wq) wq.heap.size (by rfl) (.tmp 33) (.tmp 34) 51 5 (.int .u8 0) 1 rfl Try.underlying51 info5_ rfl (by decide) (by omega) vl [] bs _ _ _ (fun _ => True) (fun _ => False) rfl rfl ?aO ?aR (fun _ _ h => h) (fun _ h => h.elim) ?aF ?aB ?aS ?aL ?_
          (case aO => exact HLE.out)
          (case aR => exact Kd.C_below HVB.out (by repeat (first | (with_reducible first | exact HQ.out | apply below_alloc | apply pw_below_drewN | apply below_drew1) | exact HQ.out)))
          (case aF => exact fun _ _ => trivial)
          (case aB => exact (by repeat (first | (with_reducible first | exact HQ.out | apply below_alloc | apply pw_below_drewN | apply below_drew1) | exact HQ.out)))
          (case aS => exact below_size (by repeat (first | (with_reducible first | exact HQ.out | apply below_alloc | apply pw_below_drewN | apply below_drew1) | exact HQ.out)))
          (case aL => simp only [List.length_nil]; omega)
          intro vb w9 ho hb hg hat
          rw [List.nil_append] at ho
          have n0_ := Aside0.mk (ho)
          have n1_ := Aside0.mk (hb)
          clear  HQ HLE ho hb hg hat
          have HBY := n0_
          have HQ := n1_
          clear n0_ n1_
          obtain ⟨Ab, cb, eb⟩ := Kd.R_slice HBY.out
          subst eb
          refine hK.out _ _ trivial (fun hHeld => ?_)
          clear hK K
          refine norm_ (a' := ?_) ?_ ?_
          rotate_left
          · show Act.put _ (some 35) _ = _
            simp only [Act.put, List.setIfInBounds_toArray, List.set_cons_zero, List.set_cons_succ, i64_w, i32_w]
            rfl
          refine two_ (i := 2) (j := 7) (Ni := some 32) (Nj := some 10) #[true, true, true, true, true, true, false, false, false] #[true, true, false, true, true, true, false, true, false] rfl rfl rfl rfl (two_of HT_.out (by kernel_rfl)) (by decide) (by decide) (fun K hK => ?_) (fun K hK => ?_)
          · refine Kd.R_make_step (Kd.int .u64) _ 36 ?hg (N := 32) ?hd 50 (.tmp 31) (.tmp 31) ?ho slots ?hx ?hy Try.underlying50 (.int .u64 0) 8 info36r_ rfl (by decide) (by decide) 0 (ok := fun _ => True) (okp := fun _ => True) rfl (fun _ h => h) trivial s0 (by omega) (Below.refl _ _) (Nat.le_refl _) ?_; (case hg => rfl); (case hd => rfl); (case ho => rfl); (case hx => rfl); (case hy => rfl)
            intro v1 w9 ho1 hb hg_ hat_
            clear hg_ hat_
            rw [HZS.out] at ho1
            have n0_ := Aside0.mk (Kd.R_below HBY.out hb)
            have n1_ := Aside0.mk (Kd.R_lower ho1 (below_size (by repeat (first | (with_reducible first | exact HQ.out | apply below_alloc | apply pw_below_drewN | apply below_drew1) | exact HQ.out))))
            have n2_ := Aside0.mk (below_step (by repeat (first | (with_reducible first | exact HQ.out | apply below_alloc | apply pw_below_drewN | apply below_drew1) | exact HQ.out)) hb)
            clear HBY HQ ho1 hb
            have HBY := n0_
            have HZ := n1_
            have HQ := n2_
            clear n0_ n1_ n2_
            obtain ⟨Az, cz, ez⟩ := Kd.R_slice HZ.out
            subst ez
            refine hK.out _ _ trivial (fun hHeld => ?_)
            clear hK K
            refine norm_ (a' := ?_) ?_ ?_
            rotate_left
            · show Act.put _ (some 32) _ = _
              simp only [Act.put, List.setIfInBounds_toArray, List.set_cons_zero, List.set_cons_succ, i64_w, i32_w]
              rfl
            refine pure_ (i := 6) (N := some 36) (v := ?_) (a' := ?_) #[true, true, true, true, true, true, true, false, false] rfl rfl (any_of HT_.out (by kernel_rfl)) (fun _ _ _ h => h) (Or.inl ⟨by rfl, ?_⟩) ?_ ?_
            rotate_left
            · intro w'
              go_simp
              with_reducible rfl
            rotate_left
            · simp only [Act.put, List.setIfInBounds_toArray, List.set_cons_zero, List.set_cons_succ, i64_w, i32_w]
              rfl
            refine one_ (i := 7) (N := some 10) #[true, true, true, true, true, true, true, true, false] rfl rfl (one_of HT_.out (by kernel_rfl)) (by decide) (fun K hK => ?_)
            refine value_ (w1 := ?_) (v := ?_) (by rfl) rfl ?_ ?_
            rotate_left 2
            · go_simp
              constructor
              · rfl
              · rfl
            refine hK.out _ _ trivial (fun hHeld => ?_)
            clear hK K
            refine norm_ (a' := ?_) ?_ ?_
            rotate_left
            · show Act.put _ (some 10) _ = _
              simp only [Act.put, List.setIfInBounds_toArray, List.set_cons_zero, List.set_cons_succ, i64_w, i32_w]
              rfl
            have n0_ := Aside0.mk (show Kd.R (Kd.int .u8) 5 (World.alloc w9 (.cells #[.int .u64 0, .slice none 0 0, .slice none 0 0] 53 (0, 0))) wq.heap.size (fun _ => True) (.slice Ab bs.length cb) bs from Kd.R_alloc HBY.out _)
            have n1_ := Aside0.mk (show Kd.R (Kd.int .u64) 36 (World.alloc w9 (.cells #[.int .u64 0, .slice none 0 0, .slice none 0 0] 53 (0, 0))) wq.heap.size (fun _ => True) (.slice Az zs.length cz) zs from Kd.R_alloc HZ.out _)
            have n2_ := Aside0.mk (show (World.alloc w9 (.cells #[.int .u64 0, .slice none 0 0, .slice none 0 0] 53 (0, 0))).heap[w9.heap.size]? = some (.cells #[.int .u64 0, .slice none 0 0, .slice none 0 0] 53 (0, 0)) from blk_new _ _)
            have n3_ := Aside0.mk (show wq.heap.size ≤ w9.heap.size from HQ.out.size)
            have n4_ := Aside0.mk (show Below wq.heap.size wq (World.alloc w9 (.cells #[.int .u64 0, .slice none 0 0, .slice none 0 0] 53 (0, 0))) from below_alloc HQ.out _)
            generalize hw_ : (World.alloc w9 (.cells #[.int .u64 0, .slice none 0 0, .slice none 0 0] 53 (0, 0))) = wb at n0_ n1_ n2_ n3_ n4_ ⊢
            clear hw_
            generalize hg_ : w9.heap.size = gA at n2_ n3_ ⊢
            clear hg_
            clear HQ HBY HZ
            have HBY := n0_
            have HZ := n1_
            have BKA := n2_
            have GEA := n3_
            have HQ := n4_
            clear n0_ n1_ n2_ n3_ n4_
            have hz0 : wb.cell? ⟨gA, 0, none⟩ = some (.int .u64 0) := (blk_cell BKA.out 0).trans rfl
            have hz1 : wb.cell? ⟨gA, 1, none⟩ = some (.slice none 0 0) := (blk_cell BKA.out 1).trans rfl
            have hz2 : wb.cell? ⟨gA, 2, none⟩ = some (.slice none 0 0) := (blk_cell BKA.out 2).trans rfl
            have hf0 := blk_frozen BKA.out 0
            have hf1 := blk_frozen BKA.out 1
            have hf2 := blk_frozen BKA.out 2
            refine last_ (i := 8) (N := none) #[true, true, true, true, true, true, true, true, true] rfl rfl (one_of HT_.out (by kernel_rfl)) (by decide) (fun K hK => ?_)
            refine skip_ (w1 := ?_) (by rfl) rfl ?_ ?_
            rotate_left
            · go_simp
              rfl
            refine hK.out _ _ ?_
            clear hK K
            refine done_ (done_of HT_.out (by kernel_rfl)) ?_
            have hneZ := Kd.R_ne HZ.out BKA.out (by decide)
            have hneY := Kd.R_ne HBY.out BKA.out (by decide)
            have m0_ := Aside0.mk (show (((wb.setCell ⟨gA, 0, none⟩ (.int .u64 cls)).setCell ⟨gA, 1, none⟩ (.slice Az zs.length cz)).setCell ⟨gA, 2, none⟩ (.slice Ab bs.length cb)).heap[gA]? = some (.cells #[.int .u64 cls, .slice Az zs.length cz, .slice Ab bs.length cb] 53 (0, 0)) from blk_put (cs := #[.int .u64 cls, .slice Az zs.length cz, .slice none 0 0]) (blk_put (cs := #[.int .u64 cls, .slice none 0 0, .slice none 0 0]) (blk_put (cs := #[.int .u64 0, .slice none 0 0, .slice none 0 0]) BKA.out 0 _ rfl) 1 _ rfl) 2 _ rfl)
            have m1_ := Aside0.mk (show Kd.R (Kd.int .u64) 36 (((wb.setCell ⟨gA, 0, none⟩ (.int .u64 cls)).setCell ⟨gA, 1, none⟩ (.slice Az zs.length cz)).setCell ⟨gA, 2, none⟩ (.slice Ab bs.length cb)) wq.heap.size (fun _ => True) (.slice Az zs.length cz) zs from R_put (R_put (R_put HZ.out rfl hneZ _ _) rfl hneZ _ _) rfl hneZ _ _)
            have m2_ := Aside0.mk (show Kd.R (Kd.int .u8) 5 (((wb.setCell ⟨gA, 0, none⟩ (.int .u64 cls)).setCell ⟨gA, 1, none⟩ (.slice Az zs.length cz)).setCell ⟨gA, 2, none⟩ (.slice Ab bs.length cb)) wq.heap.size (fun _ => True) (.slice Ab bs.length cb) bs from R_put (R_put (R_put HBY.out rfl hneY _ _) rfl hneY _ _) rfl hneY _ _)
            have m3_ := Aside0.mk (show Below wq.heap.size wq (((wb.setCell ⟨gA, 0, none⟩ (.int .u64 cls)).setCell ⟨gA, 1, none⟩ (.slice Az zs.length cz)).setCell ⟨gA, 2, none⟩ (.slice Ab bs.length cb)) from (Below.setCell (Below.setCell (Below.setCell HQ.out (p := ⟨gA, 0, none⟩) GEA.out _) (p := ⟨gA, 1, none⟩) GEA.out _) (p := ⟨gA, 2, none⟩) GEA.out _))
            go_wp2
            go_meet
            case rel => exact ⟨gA, Az, cz, Ab, cb, rfl, m0_, GEA, m1_, m2_, m3_⟩
          · refine value_ (w1 := ?_) (v := ?_) (by rfl) rfl ?_ ?_
            rotate_left 2
            · go_simp
              constructor
              · rfl
              · rfl
            refine hK.out _ _ trivial (fun hHeld => ?_)
            clear hK K
            refine norm_ (a' := ?_) ?_ ?_
            rotate_left
            · show Act.put _ (some 10) _ = _
              simp only [Act.put, List.setIfInBounds_toArray, List.set_cons_zero, List.set_cons_succ, i64_w, i32_w]
              rfl
            have n0_ := Aside0.mk (show Kd.R (Kd.int .u8) 5 (World.alloc w9 (.cells #[.int .u64 0, .slice none 0 0, .slice none 0 0] 53 (0, 0))) wq.heap.size (fun _ => True) (.slice Ab bs.length cb) bs from Kd.R_alloc HBY.out _)
            have n1_ := Aside0.mk (show (World.alloc w9 (.cells #[.int .u64 0, .slice none 0 0, .slice none 0 0] 53 (0, 0))).heap[w9.heap.size]? = some (.cells #[.int .u64 0, .slice none 0 0, .slice none 0 0] 53 (0, 0)) from blk_new _ _)
            have n2_ := Aside0.mk (show wq.heap.size ≤ w9.heap.size from HQ.out.size)
            have n3_ := Aside0.mk (show Below wq.heap.size wq (World.alloc w9 (.cells #[.int .u64 0, .slice none 0 0, .slice none 0 0] 53 (0, 0))) from below_alloc HQ.out _)
            generalize hw_ : (World.alloc w9 (.cells #[.int .u64 0, .slice none 0 0, .slice none 0 0] 53 (0, 0))) = wb at n0_ n1_ n2_ n3_ ⊢
            clear hw_
            generalize hg_ : w9.heap.size = gA at n1_ n2_ ⊢
            clear hg_
            clear HQ HBY
            have HBY := n0_
            have BKA := n1_
            have GEA := n2_
            have HQ := n3_
            clear n0_ n1_ n2_ n3_
            refine one_ (i := 2) (N := some 32) #[true, true, true, true, true, true, false, true, false] rfl rfl (one_of HT_.out (by kernel_rfl)) (by decide) (fun K hK => ?_)
            refine Kd.R_make_step (Kd.int .u64) _ 36 ?hg (N := 32) ?hd 50 (.tmp 31) (.tmp 31) ?ho slots ?hx ?hy Try.underlying50 (.int .u64 0) 8 info36r_ rfl (by decide) (by decide) 0 (ok := fun _ => True) (okp := fun _ => True) rfl (fun _ h => h) trivial s0 (by omega) (Below.refl _ _) (Nat.le_refl _) ?_; (case hg => rfl); (case hd => rfl); (case ho => rfl); (case hx => rfl); (case hy => rfl)
            intro v1 w9 ho1 hb hg_ hat_
            clear hg_ hat_
            rw [HZS.out] at ho1
            have n0_ := Aside0.mk (Kd.R_below HBY.out hb)
            have n1_ := Aside0.mk (blk_below BKA.out hb)
            have n2_ := Aside0.mk (Kd.R_lower ho1 (below_size (by repeat (first | (with_reducible first | exact HQ.out | apply below_alloc | apply pw_below_drewN | apply below_drew1) | exact HQ.out))))
            have n3_ := Aside0.mk (below_step (by repeat (first | (with_reducible first | exact HQ.out | apply below_alloc | apply pw_below_drewN | apply below_drew1) | exact HQ.out)) hb)
            clear HBY BKA HQ ho1 hb
            have HBY := n0_
            have BKA := n1_
            have HZ := n2_
            have HQ := n3_
            clear n0_ n1_ n2_ n3_
            obtain ⟨Az, cz, ez⟩ := Kd.R_slice HZ.out
            subst ez
            refine hK.out _ _ trivial (fun hHeld => ?_)
            clear hK K
            refine norm_ (a' := ?_) ?_ ?_
            rotate_left
            · show Act.put _ (some 32) _ = _
              simp only [Act.put, List.setIfInBounds_toArray, List.set_cons_zero, List.set_cons_succ, i64_w, i32_w]
              rfl
            refine pure_ (i := 6) (N := some 36) (v := ?_) (a' := ?_) #[true, true, true, true, true, true, true, true, false] rfl rfl (any_of HT_.out (by kernel_rfl)) (fun _ _ _ h => h) (Or.inl ⟨by rfl, ?_⟩) ?_ ?_
            rotate_left
            · intro w'
              go_simp
              with_reducible rfl
            rotate_left
            · simp only [Act.put, List.setIfInBounds_toArray, List.set_cons_zero, List.set_cons_succ, i64_w, i32_w]
              rfl
            have hz0 : w9.cell? ⟨gA, 0, none⟩ = some (.int .u64 0) := (blk_cell BKA.out 0).trans rfl
            have hz1 : w9.cell? ⟨gA, 1, none⟩ = some (.slice none 0 0) := (blk_cell BKA.out 1).trans rfl
            have hz2 : w9.cell? ⟨gA, 2, none⟩ = some (.slice none 0 0) := (blk_cell BKA.out 2).trans rfl
            have hf0 := blk_frozen BKA.out 0
            have hf1 := blk_frozen BKA.out 1
            have hf2 := blk_frozen BKA.out 2
            refine last_ (i := 8) (N := none) #[true, true, true, true, true, true, true, true, true] rfl rfl (one_of HT_.out (by kernel_rfl)) (by decide) (fun K hK => ?_)
            refine skip_ (w1 := ?_) (by rfl) rfl ?_ ?_
            rotate_left
            · go_simp
              rfl
            refine hK.out _ _ ?_
            clear hK K
            refine done_ (done_of HT_.out (by kernel_rfl)) ?_
            have hneZ := Kd.R_ne HZ.out BKA.out (by decide)
            have hneY := Kd.R_ne HBY.out BKA.out (by decide)
            have m0_ := Aside0.mk (show (((w9.setCell ⟨gA, 0, none⟩ (.int .u64 cls)).setCell ⟨gA, 1, none⟩ (.slice Az zs.length cz)).setCell ⟨gA, 2, none⟩ (.slice Ab bs.length cb)).heap[gA]? = some (.cells #[.int .u64 cls, .slice Az zs.length cz, .slice Ab bs.length cb] 53 (0, 0)) from blk_put (cs := #[.int .u64 cls, .slice Az zs.length cz, .slice none 0 0]) (blk_put (cs := #[.int .u64 cls, .slice none 0 0, .slice none 0 0]) (blk_put (cs := #[.int .u64 0, .slice none 0 0, .slice none 0 0]) BKA.out 0 _ rfl) 1 _ rfl) 2 _ rfl)
            have m1_ := Aside0.mk (show Kd.R (Kd.int .u64) 36 (((w9.setCell ⟨gA, 0, none⟩ (.int .u64 cls)).setCell ⟨gA, 1, none⟩ (.slice Az zs.length cz)).setCell ⟨gA, 2, none⟩ (.slice Ab bs.length cb)) wq.heap.size (fun _ => True) (.slice Az zs.length cz) zs from R_put (R_put (R_put HZ.out rfl hneZ _ _) rfl hneZ _ _) rfl hneZ _ _)
            have m2_ := Aside0.mk (show Kd.R (Kd.int .u8) 5 (((w9.setCell ⟨gA, 0, none⟩ (.int .u64 cls)).setCell ⟨gA, 1, none⟩ (.slice Az zs.length cz)).setCell ⟨gA, 2, none⟩ (.slice Ab bs.length cb)) wq.heap.size (fun _ => True) (.slice Ab bs.length cb) bs from R_put (R_put (R_put HBY.out rfl hneY _ _) rfl hneY _ _) rfl hneY _ _)
            have m3_ := Aside0.mk (show Below wq.heap.size wq (((w9.setCell ⟨gA, 0, none⟩ (.int .u64 cls)).setCell ⟨gA, 1, none⟩ (.slice Az zs.length cz)).setCell ⟨gA, 2, none⟩ (.slice Ab bs.length cb)) from (Below.setCell (Below.setCell (Below.setCell HQ.out (p := ⟨gA, 0, none⟩) GEA.out _) (p := ⟨gA, 1, none⟩) GEA.out _) (p := ⟨gA, 2, none⟩) GEA.out _))
            go_wp2
            go_meet
            case rel => exact ⟨gA, Az, cz, Ab, cb, rfl, m0_, GEA, m1_, m2_, m3_⟩
        · refine value_ (w1 := ?_) (v := ?_) (by rfl) rfl ?_ ?_
          rotate_left 2
          · go_simp
            constructor
            · rfl
            · rfl
          refine hK.out _ _ trivial (fun hHeld => ?_)
          clear hK K
          refine norm_ (a' := ?_) ?_ ?_
          rotate_left
          · show Act.put _ (some 10) _ = _
            simp only [Act.put, List.setIfInBounds_toArray, List.set_cons_zero, List.set_cons_succ, i64_w, i32_w]
            rfl
          have n0_ := Aside0.mk (show Kd.R (Kd.int .u8) 5 (World.alloc w9 (.cells #[.int .u64 0, .slice none 0 0, .slice none 0 0] 53 (0, 0))) wq.heap.size (fun _ => True) vl [] from Kd.R_alloc HLE.out _)
          have n1_ := Aside0.mk (show (World.alloc w9 (.cells #[.int .u64 0, .slice none 0 0, .slice none 0 0] 53 (0, 0))).heap[w9.heap.size]? = some (.cells #[.int .u64 0, .slice none 0 0, .slice none 0 0] 53 (0, 0)) from blk_new _ _)
          have n2_ := Aside0.mk (show wq.heap.size ≤ w9.heap.size from HQ.out.size)
          have n3_ := Aside0.mk (show Below wq.heap.size wq (World.alloc w9 (.cells #[.int .u64 0, .slice none 0 0, .slice none 0 0] 53 (0, 0))) from below_alloc HQ.out _)
          generalize hw_ : (World.alloc w9 (.cells #[.int .u64 0, .slice none 0 0, .slice none 0 0] 53 (0, 0))) = wb at n0_ n1_ n2_ n3_ ⊢
          clear hw_
          generalize hg_ : w9.heap.size = gA at n1_ n2_ ⊢
          clear hg_
          clear HQ HLE
          have HLE := n0_
          have BKA := n1_
          have GEA := n2_
          have HQ := n3_
          clear n0_ n1_ n2_ n3_
          refine two_ (i := 2) (j := 5) (Ni := some 32) (Nj := some 35) #[true, true, true, true, true, false, false, true, false] #[true, true, false, true, true, true, false, true, false] rfl rfl rfl rfl (two_of HT_.out (by kernel_rfl)) (by decide) (by decide) (fun K hK => ?_) (fun K hK => ?_)
          · refine Kd.R_make_step (Kd.int .u64) _ 36 ?hg (N := 32) ?hd 50 (.tmp 31) (.tmp 31) ?ho slots ?hx ?hy Try.underlying50 (.int .u64 0) 8 info36r_ rfl (by decide) (by decide) 0 (ok := fun _ => True) (okp := fun _ => True) rfl (fun _ h => h) trivial s0 (by omega) (Below.refl _ _) (Nat.le_refl _) ?_; (case hg => rfl); (case hd => rfl); (case ho => rfl); (case hx => rfl); (case hy => rfl)
            intro v1 w9 ho1 hb hg_ hat_
            clear hg_ hat_
            rw [HZS.out] at ho1
            have n0_ := Aside0.mk (Kd.R_below HLE.out hb)
            have n1_ := Aside0.mk (blk_below BKA.out hb)
            have n2_ := Aside0.mk (Kd.R_lower ho1 (below_size (by repeat (first | (with_reducible first | exact HQ.out | apply below_alloc | apply pw_below_drewN | apply below_drew1) | exact HQ.out))))
            have n3_ := Aside0.mk (below_step (by repeat (first | (with_reducible first | exact HQ.out | apply below_alloc | apply pw_below_drewN | apply below_drew1) | exact HQ.out)) hb)
            clear HLE BKA HQ ho1 hb
            have HLE := n0_
            have BKA := n1_
            have HZ := n2_
            have HQ := n3_
            clear n0_ n1_ n2_ n3_
            obtain ⟨Az, cz, ez⟩ := Kd.R_slice HZ.out
            subst ez
            refine hK.out _ _ trivial (fun hHeld => ?_)
            clear hK K
            refine norm_ (a' := ?_) ?_ ?_
            rotate_left
            · show Act.put _ (some 32) _ = _
              simp only [Act.put, List.setIfInBounds_toArray, List.set_cons_zero, List.set_cons_succ, i64_w, i32_w]
              rfl
            refine one_ (i := 5) (N := some 35) #[true, true, true, true, true, true, false, true, false] rfl rfl (one_of HT_.out (by kernel_rfl)) (by decide) (fun K hK => ?_)
            refine Kd.R_append_rows_step (Kd.int .u8) (w0 := wq) wq.heap.size (by rfl) (.tmp 33) (.tmp 34) 51 5 (.int .u8 0) 1 rfl Try.underlying51 info5_ rfl (by decide) (by omega) vl [] bs _ _ _ (fun _ => True) (fun _ => False) rfl rfl ?aO ?aR (fun _ _ h => h) (fun _ h => h.elim) ?aF ?aB ?aS ?aL ?_
            (case aO => exact HLE.out)
            (case aR => exact Kd.C_below HVB.out (by repeat (first | (with_reducible first | exact HQ.out | apply below_alloc | apply pw_below_drewN | apply below_drew1) | exact HQ.out)))
            (case aF => exact fun _ _ => trivial)
            (case aB => exact (by repeat (first | (with_reducible first | exact HQ.out | apply below_alloc | apply pw_below_drewN | apply below_drew1) | exact HQ.out)))
            (case aS => exact below_size (by repeat (first | (with_reducible first | exact HQ.out | apply below_alloc | apply pw_below_drewN | apply below_drew1) | exact HQ.out)))
            (case aL => simp only [List.length_nil]; omega)
            intro vb w9 ho hb hg hat
            rw [List.nil_append] at ho
            have n0_ := Aside0.mk (blk_grown BKA.out hg (Kd.R_ne HLE.out BKA.out (by decide)))
            have n1_ := Aside0.mk (Kd.R_over' HZ.out (Kd.R_typed HLE.out) (by decide) hg)
            have n2_ := Aside0.mk (ho)
            have n3_ := Aside0.mk (hb)
            clear BKA HZ HQ HLE ho hb hg hat
            have BKA := n0_
            have HZ := n1_
            have HBY := n2_
            have HQ := n3_
            clear n0_ n1_ n2_ n3_
            obtain ⟨Ab, cb, eb⟩ := Kd.R_slice HBY.out
            subst eb
            refine hK.out _ _ trivial (fun hHeld => ?_)
            clear hK K
            refine norm_ (a' := ?_) ?_ ?_
            rotate_left
            · show Act.put _ (some 35) _ = _
              simp only [Act.put, List.setIfInBounds_toArray, List.set_cons_zero, List.set_cons_succ, i64_w, i32_w]
              rfl
            refine pure_ (i := 6) (N := some 36) (v := ?_) (a' := ?_) #[true, true, true, true, true, true, true, true, false] rfl rfl (any_of HT_.out (by kernel_rfl)) (fun _ _ _ h => h) (Or.inl ⟨by rfl, ?_⟩) ?_ ?_
            rotate_left
            · intro w'
              go_simp
              with_reducible rfl
            rotate_left
            · simp only [Act.put, List.setIfInBounds_toArray, List.set_cons_zero, List.set_cons_succ, i64_w, i32_w]
              rfl
            have hz0 : w9.cell? ⟨gA, 0, none⟩ = some (.int .u64 0) := (blk_cell BKA.out 0).trans rfl
            have hz1 : w9.cell? ⟨gA, 1, none⟩ = some (.slice none 0 0) := (blk_cell BKA.out 1).trans rfl
            have hz2 : w9.cell? ⟨gA, 2, none⟩ = some (.slice none 0 0) := (blk_cell BKA.out 2).trans rfl
            have hf0 := blk_frozen BKA.out 0
            have hf1 := blk_frozen BKA.out 1
            have hf2 := blk_frozen BKA.out 2
            refine last_ (i := 8) (N := none) #[true, true, true, true, true, true, true, true, true] rfl rfl (one_of HT_.out (by kernel_rfl)) (by decide) (fun K hK => ?_)
            refine skip_ (w1 := ?_) (by rfl) rfl ?_ ?_
            rotate_left
            · go_simp
              rfl
            refine hK.out _ _ ?_
            clear hK K
            refine done_ (done_of HT_.out (by kernel_rfl)) ?_
            have hneZ := Kd.R_ne HZ.out BKA.out (by decide)
            have hneY := Kd.R_ne HBY.out BKA.out (by decide)
            have m0_ := Aside0.mk (show (((w9.setCell ⟨gA, 0, none⟩ (.int .u64 cls)).setCell ⟨gA, 1, none⟩ (.slice Az zs.length cz)).setCell ⟨gA, 2, none⟩ (.slice Ab bs.length cb)).heap[gA]? = some (.cells #[.int .u64 cls, .slice Az zs.length cz, .slice Ab bs.length cb] 53 (0, 0)) from blk_put (cs := #[.int .u64 cls, .slice Az zs.length cz, .slice none 0 0]) (blk_put (cs := #[.int .u64 cls, .slice none 0 0, .slice none 0 0]) (blk_put (cs := #[.int .u64 0, .slice none 0 0, .slice none 0 0]) BKA.out 0 _ rfl) 1 _ rfl) 2 _ rfl)
            have m1_ := Aside0.mk (show Kd.R (Kd.int .u64) 36 (((w9.setCell ⟨gA, 0, none⟩ (.int .u64 cls)).setCell ⟨gA, 1, none⟩ (.slice Az zs.length cz)).setCell ⟨gA, 2, none⟩ (.slice Ab bs.length cb)) wq.heap.size (fun _ => True) (.slice Az zs.length cz) zs from R_put (R_put (R_put HZ.out rfl hneZ _ _) rfl hneZ _ _) rfl hneZ _ _)
            have m2_ := Aside0.mk (show Kd.R (Kd.int .u8) 5 (((w9.setCell ⟨gA, 0, none⟩ (.int .u64 cls)).setCell ⟨gA, 1, none⟩ (.slice Az zs.length cz)).setCell ⟨gA, 2, none⟩ (.slice Ab bs.length cb)) wq.heap.size (fun _ => True) (.slice Ab bs.length cb) bs from R_put (R_put (R_put HBY.out rfl hneY _ _) rfl hneY _ _) rfl hneY _ _)
            have m3_ := Aside0.mk (show Below wq.heap.size wq (((w9.setCell ⟨gA, 0, none⟩ (.int .u64 cls)).setCell ⟨gA, 1, none⟩ (.slice Az zs.length cz)).setCell ⟨gA, 2, none⟩ (.slice Ab bs.length cb)) from (Below.setCell (Below.setCell (Below.setCell HQ.out (p := ⟨gA, 0, none⟩) GEA.out _) (p := ⟨gA, 1, none⟩) GEA.out _) (p := ⟨gA, 2, none⟩) GEA.out _))
            go_wp2
            go_meet
            case rel => exact ⟨gA, Az, cz, Ab, cb, rfl, m0_, GEA, m1_, m2_, m3_⟩
          · refine Kd.R_append_rows_step (Kd.int .u8) (w0 := wq) wq.heap.size (by rfl) (.tmp 33) (.tmp 34) 51 5 (.int .u8 0) 1 rfl Try.underlying51 info5_ rfl (by decide) (by omega) vl [] bs _ _ _ (fun _ => True) (fun _ => False) rfl rfl ?aO ?aR (fun _ _ h => h) (fun _ h => h.elim) ?aF ?aB ?aS ?aL ?_
            (case aO => exact HLE.out)
            (case aR => exact Kd.C_below HVB.out (by repeat (first | (with_reducible first | exact HQ.out | apply below_alloc | apply pw_below_drewN | apply below_drew1) | exact HQ.out)))
            (case aF => exact fun _ _ => trivial)
            (case aB => exact (by repeat (first | (with_reducible first | exact HQ.out | apply below_alloc | apply pw_below_drewN | apply below_drew1) | exact HQ.out)))
            (case aS => exact below_size (by repeat (first | (with_reducible first | exact HQ.out | apply below_alloc | apply pw_below_drewN | apply below_drew1) | exact HQ.out)))
            (case aL => simp only [List.length_nil]; omega)
            intro vb w9 ho hb hg hat
            rw [List.nil_append] at ho
            have n0_ := Aside0.mk (blk_grown BKA.out hg (Kd.R_ne HLE.out BKA.out (by decide)))
            have n1_ := Aside0.mk (ho)
            have n2_ := Aside0.mk (hb)
            clear BKA HQ HLE ho hb hg hat
            have BKA := n0_
            have HBY := n1_
            have HQ := n2_
            clear n0_ n1_ n2_
            obtain ⟨Ab, cb, eb⟩ := Kd.R_slice HBY.out
            subst eb
            refine hK.out _ _ trivial (fun hHeld => ?_)
            clear hK K
            refine norm_ (a' := ?_) ?_ ?_
            rotate_left
            · show Act.put _ (some 35) _ = _
              simp only [Act.put, List.setIfInBounds_toArray, List.set_cons_zero, List.set_cons_succ, i64_w, i32_w]
              rfl
            refine one_ (i := 2) (N := some 32) #[true, true, true, true, true, true, false, true, false] rfl rfl (one_of HT_.out (by kernel_rfl)) (by decide) (fun K hK => ?_)
            refine Kd.R_make_step (Kd.int .u64) _ 36 ?hg (N := 32) ?hd 50 (.tmp 31) (.tmp 31) ?ho slots ?hx ?hy Try.underlying50 (.int .u64 0) 8 info36r_ rfl (by decide) (by decide) 0 (ok := fun _ => True) (okp := fun _ => True) rfl (fun _ h => h) trivial s0 (by omega) (Below.refl _ _) (Nat.le_refl _) ?_; (case hg => rfl); (case hd => rfl); (case ho => rfl); (case hx => rfl); (case hy => rfl)
            intro v1 w9 ho1 hb hg_ hat_
            clear hg_ hat_
            rw [HZS.out] at ho1
            have n0_ := Aside0.mk (blk_below BKA.out hb)
            have n1_ := Aside0.mk (Kd.R_below HBY.out hb)
            have n2_ := Aside0.mk (Kd.R_lower ho1 (below_size (by repeat (first | (with_reducible first | exact HQ.out | apply below_alloc | apply pw_below_drewN | apply below_drew1) | exact HQ.out))))
            have n3_ := Aside0.mk (below_step (by repeat (first | (with_reducible first | exact HQ.out | apply below_alloc | apply pw_below_drewN | apply below_drew1) | exact HQ.out)) hb)
            clear BKA HBY HQ ho1 hb
            have BKA := n0_
            have HBY := n1_
            have HZ := n2_
            have HQ := n3_
            clear n0_ n1_ n2_ n3_
            obtain ⟨Az, cz, ez⟩ := Kd.R_slice HZ.out
            subst ez
            refine hK.out _ _ trivial (fun hHeld => ?_)
            clear hK K
            refine norm_ (a' := ?_) ?_ ?_
            rotate_left
            · show Act.put _ (some 32) _ = _
              simp only [Act.put, List.setIfInBounds_toArray, List.set_cons_zero, List.set_cons_succ, i64_w, i32_w]
              rfl
            refine pure_ (i := 6) (N := some 36) (v := ?_) (a' := ?_) #[true, true, true, true, true, true, true, true, false] rfl rfl (any_of HT_.out (by kernel_rfl)) (fun _ _ _ h => h) (Or.inl ⟨by rfl, ?_⟩) ?_ ?_
            rotate_left
            · intro w'
              go_simp
              with_reducible rfl
            rotate_left
            · simp only [Act.put, List.setIfInBounds_toArray, List.set_cons_zero, List.set_cons_succ, i64_w, i32_w]
              rfl
            have hz0 : w9.cell? ⟨gA, 0, none⟩ = some (.int .u64 0) := (blk_cell BKA.out 0).trans rfl
            have hz1 : w9.cell? ⟨gA, 1, none⟩ = some (.slice none 0 0) := (blk_cell BKA.out 1).trans rfl
            have hz2 : w9.cell? ⟨gA, 2, none⟩ = some (.slice none 0 0) := (blk_cell BKA.out 2).trans rfl
            have hf0 := blk_frozen BKA.out 0
            have hf1 := blk_frozen BKA.out 1
            have hf2 := blk_frozen BKA.out 2
            refine last_ (i := 8) (N := none) #[true, true, true, true, true, true, true, true, true] rfl rfl (one_of HT_.out (by kernel_rfl)) (by decide) (fun K hK => ?_)
            refine skip_ (w1 := ?_) (by rfl) rfl ?_ ?_
            rotate_left
            · go_simp
              rfl
            refine hK.out _ _ ?_
            clear hK K
            refine done_ (done_of HT_.out (by kernel_rfl)) ?_
            have hneZ := Kd.R_ne HZ.out BKA.out (by decide)
            have hneY := Kd.R_ne HBY.out BKA.out (by decide)
            have m0_ := Aside0.mk (show (((w9.setCell ⟨gA, 0, none⟩ (.int .u64 cls)).setCell ⟨gA, 1, none⟩ (.slice Az zs.length cz)).setCell ⟨gA, 2, none⟩ (.slice Ab bs.length cb)).heap[gA]? = some (.cells #[.int .u64 cls, .slice Az zs.length cz, .slice Ab bs.length cb] 53 (0, 0)) from blk_put (cs := #[.int .u64 cls, .slice Az zs.length cz, .slice none 0 0]) (blk_put (cs := #[.int .u64 cls, .slice none 0 0, .slice none 0 0]) (blk_put (cs := #[.int .u64 0, .slice none 0 0, .slice none 0 0]) BKA.out 0 _ rfl) 1 _ rfl) 2 _ rfl)
            have m1_ := Aside0.mk (show Kd.R (Kd.int .u64) 36 (((w9.setCell ⟨gA, 0, none⟩ (.int .u64 cls)).setCell ⟨gA, 1, none⟩ (.slice Az zs.length cz)).setCell ⟨gA, 2, none⟩ (.slice Ab bs.length cb)) wq.heap.size (fun _ => True) (.slice Az zs.length cz) zs from R_put (R_put (R_put HZ.out rfl hneZ _ _) rfl hneZ _ _) rfl hneZ _ _)
            have m2_ := Aside0.mk (show Kd.R (Kd.int .u8) 5 (((w9.setCell ⟨gA, 0, none⟩ (.int .u64 cls)).setCell ⟨gA, 1, none⟩ (.slice Az zs.length cz)).setCell ⟨gA, 2, none⟩ (.slice Ab bs.length cb)) wq.heap.size (fun _ => True) (.slice Ab bs.length cb) bs from R_put (R_put (R_put HBY.out rfl hneY _ _) rfl hneY _ _) rfl hneY _ _)
            have m3_ := Aside0.mk (show Below wq.heap.size wq (((w9.setCell ⟨gA, 0, none⟩ (.int .u64 cls)).setCell ⟨gA, 1, none⟩ (.slice Az zs.length cz)).setCell ⟨gA, 2, none⟩ (.slice Ab bs.length cb)) from (Below.setCell (Below.setCell (Below.setCell HQ.out (p := ⟨gA, 0, none⟩) GEA.out _) (p := ⟨gA, 1, none⟩) GEA.out _) (p := ⟨gA, 2, none⟩) GEA.out _))
            go_wp2
            go_meet
            case rel => exact ⟨gA, Az, cz, Ab, cb, rfl, m0_, GEA, m1_, m2_, m3_⟩
      · refine value_ (w1 := ?_) (v := ?_) (by rfl) rfl ?_ ?_
        rotate_left 2
        · go_simp
          constructor
          · rfl
          · rfl
        refine hK.out _ _ trivial (fun hHeld => ?_)
        clear hK K
        refine norm_ (a' := ?_) ?_ ?_
        rotate_left
        · show Act.put _ (some 10) _ = _
          simp only [Act.put, List.setIfInBounds_toArray, List.set_cons_zero, List.set_cons_succ, i64_w, i32_w]
          rfl
        have n0_ := Aside0.mk (show (World.alloc w5 (.cells #[.int .u64 0, .slice none 0 0, .slice none 0 0] 53 (0, 0))).heap[w5.heap.size]? = some (.cells #[.int .u64 0, .slice none 0 0, .slice none 0 0] 53 (0, 0)) from blk_new _ _)
        have n1_ := Aside0.mk (show wq.heap.size ≤ w5.heap.size from HQ.out.size)
        have n2_ := Aside0.mk (show Below wq.heap.size wq (World.alloc w5 (.cells #[.int .u64 0, .slice none 0 0, .slice none 0 0] 53 (0, 0))) from below_alloc HQ.out _)
        generalize hw_ : (World.alloc w5 (.cells #[.int .u64 0, .slice none 0 0, .slice none 0 0] 53 (0, 0))) = wb at n0_ n1_ n2_ ⊢
        clear hw_
        generalize hg_ : w5.heap.size = gA at n0_ n1_ ⊢
        clear hg_
        clear HQ 
        have BKA := n0_
        have GEA := n1_
        have HQ := n2_
        clear n0_ n1_ n2_
        refine two_ (i := 2) (j := 3) (Ni := some 32) (Nj := some 33) #[true, true, true, false, true, false, false, true, false] #[true, true, false, true, true, false, false, true, false] rfl rfl rfl rfl (two_of HT_.out (by kernel_rfl)) (by decide) (by decide) (fun K hK => ?_) (fun K hK => ?_)
        · refine Kd.R_make_step (Kd.int .u64) _ 36 ?hg (N := 32) ?hd 50 (.tmp 31) (.tmp 31) ?ho slots ?hx ?hy Try.underlying50 (.int .u64 0) 8 info36r_ rfl (by decide) (by decide) 0 (ok := fun _ => True) (okp := fun _ => True) rfl (fun _ h => h) trivial s0 (by omega) (Below.refl _ _) (Nat.le_refl _) ?_; (case hg => rfl); (case hd => rfl); (case ho => rfl); (case hx => rfl); (case hy => rfl)
          intro v1 w9 ho1 hb hg_ hat_
          clear hg_ hat_
          rw [HZS.out] at ho1
          have n0_ := Aside0.mk (blk_below BKA.out hb)
          have n1_ := Aside0.mk (Kd.R_lower ho1 (below_size (by repeat (first | (with_reducible first | exact HQ.out | apply below_alloc | apply pw_below_drewN | apply below_drew1) | exact HQ.out))))
          have n2_ := Aside0.mk (below_step (by repeat (first | (with_reducible first | exact HQ.out | apply below_alloc | apply pw_below_drewN | apply below_drew1) | exact HQ.out)) hb)
          clear BKA HQ ho1 hb
          have BKA := n0_
          have HZ := n1_
          have HQ := n2_
          clear n0_ n1_ n2_
          obtain ⟨Az, cz, ez⟩ := Kd.R_slice HZ.out
          subst ez
          refine hK.out _ _ trivial (fun hHeld => ?_)
          clear hK K
          refine norm_ (a' := ?_) ?_ ?_
          rotate_left
          · show Act.put _ (some 32) _ = _
            simp only [Act.put, List.setIfInBounds_toArray, List.set_cons_zero, List.set_cons_succ, i64_w, i32_w]
            rfl
          refine one_ (i := 3) (N := some 33) #[true, true, true, true, true, false, false, true, false] rfl rfl (one_of HT_.out (by kernel_rfl)) (by decide) (fun K hK => ?_)
          refine Kd.R_lit_step (Kd.int .u8) _ 5 ?hg (N := 33) ?hd (xs := ([] : List Int)) (inner := []) (ok := fun _ => True) (okp := fun _ => True) ?hr ?hp (fun _ hk => hk) trivial (Below.refl _ _) (Nat.le_refl _) (by simp) ?_; (case hd => rfl); (case hg => rfl); (case hr => first | (go_simp; done) | (go_simp; rfl)); (case hp => exact Reps.none _ _)
          intro vl w9 ho1 hb hg_ hat_
          clear hg_ hat_
          have n0_ := Aside0.mk (blk_below BKA.out hb)
          have n1_ := Aside0.mk (Kd.R_below HZ.out hb)
          have n2_ := Aside0.mk (Kd.R_lower ho1 (below_size (by repeat (first | (with_reducible first | exact HQ.out | apply below_alloc | apply pw_below_drewN | apply below_drew1) | exact HQ.out))))
          have n3_ := Aside0.mk (below_step (by repeat (first | (with_reducible first | exact HQ.out | apply below_alloc | apply pw_below_drewN | apply below_drew1) | exact HQ.out)) hb)
          clear BKA HZ HQ ho1 hb
          have BKA := n0_
          have HZ := n1_
          have HLE := n2_
          have HQ := n3_
          clear n0_ n1_ n2_ n3_
          refine hK.out _ _ trivial (fun hHeld => ?_)
          clear hK K
          refine norm_ (a' := ?_) ?_ ?_
          rotate_left
          · show Act.put _ (some 33) _ = _
            simp only [Act.put, List.setIfInBounds_toArray, List.set_cons_zero, List.set_cons_succ, i64_w, i32_w]
            rfl
          refine one_ (i := 5) (N := some 35) #[true, true, true, true, true, true, false, true, false] rfl rfl (one_of HT_.out (by kernel_rfl)) (by decide) (fun K hK => ?_)
          refine Kd.R_append_rows_step (Kd.int .u8) (w0 := wq) wq.heap.size (by rfl) (.tmp 33) (.tmp 34) 51 5 (.int .u8 0) 1 rfl Try.underlying51 info5_ rfl (by decide) (by omega) vl [] bs _ _ _ (fun _ => True) (fun _ => False) rfl rfl ?aO ?aR (fun _ _ h => h) (fun _ h => h.elim) ?aF ?aB ?aS ?aL ?_
          (case aO => exact HLE.out)
          (case aR => exact Kd.C_below HVB.out (by repeat (first | (with_reducible first | exact HQ.out | apply below_alloc | apply pw_below_drewN | apply below_drew1) | exact HQ.out)))
          (case aF => exact fun _ _ => trivial)
          (case aB => exact (by repeat (first | (with_reducible first | exact HQ.out | apply below_alloc | apply pw_below_drewN | apply below_drew1) | exact HQ.out)))
          (case aS => exact below_size (by repeat (first | (with_reducible first | exact HQ.out | apply below_alloc | apply pw_below_drewN | apply below_drew1) | exact HQ.out)))
          (case aL => simp only [List.length_nil]; omega)
          intro vb w9 ho hb hg hat
          rw [List.nil_append] at ho
          have n0_ := Aside0.mk (blk_grown BKA.out hg (Kd.R_ne HLE.out BKA.out (by decide)))
          have n1_ := Aside0.mk (Kd.R_over' HZ.out (Kd.R_typed HLE.out) (by decide) hg)
          have n2_ := Aside0.mk (ho)
          have n3_ := Aside0.mk (hb)
          clear BKA HZ HQ HLE ho hb hg hat
          have BKA := n0_
          have HZ := n1_
          have HBY := n2_
          have HQ := n3_
          clear n0_ n1_ n2_ n3_
          obtain ⟨Ab, cb, eb⟩ := Kd.R_slice HBY.out
          subst eb
          refine hK.out _ _ trivial (fun hHeld => ?_)
          clear hK K
          refine norm_ (a' := ?_) ?_ ?_
          rotate_left
          · show Act.put _ (some 35) _ = _
            simp only [Act.put, List.setIfInBounds_toArray, List.set_cons_zero, List.set_cons_succ, i64_w, i32_w]
            rfl
          refine pure_ (i := 6) (N := some 36) (v := ?_) (a' := ?_) #[true, true, true, true, true, true, true, true, false] rfl rfl (any_of HT_.out (by kernel_rfl)) (fun _ _ _ h => h) (Or.inl ⟨by rfl, ?_⟩) ?_ ?_
          rotate_left
          · intro w'
            go_simp
            with_reducible rfl
          rotate_left
          · simp only [Act.put, List.setIfInBounds_toArray, List.set_cons_zero, List.set_cons_succ, i64_w, i32_w]
            rfl
          have hz0 : w9.cell? ⟨gA, 0, none⟩ = some (.int .u64 0) := (blk_cell BKA.out 0).trans rfl
          have hz1 : w9.cell? ⟨gA, 1, none⟩ = some (.slice none 0 0) := (blk_cell BKA.out 1).trans rfl
          have hz2 : w9.cell? ⟨gA, 2, none⟩ = some (.slice none 0 0) := (blk_cell BKA.out 2).trans rfl
          have hf0 := blk_frozen BKA.out 0
          have hf1 := blk_frozen BKA.out 1
          have hf2 := blk_frozen BKA.out 2
          refine last_ (i := 8) (N := none) #[true, true, true, true, true, true, true, true, true] rfl rfl (one_of HT_.out (by kernel_rfl)) (by decide) (fun K hK => ?_)
          refine skip_ (w1 := ?_) (by rfl) rfl ?_ ?_
          rotate_left
          · go_simp
            rfl
          refine hK.out _ _ ?_
          clear hK K
          refine done_ (done_of HT_.out (by kernel_rfl)) ?_
          have hneZ := Kd.R_ne HZ.out BKA.out (by decide)
          have hneY := Kd.R_ne HBY.out BKA.out (by decide)
          have m0_ := Aside0.mk (show (((w9.setCell ⟨gA, 0, none⟩ (.int .u64 cls)).setCell ⟨gA, 1, none⟩ (.slice Az zs.length cz)).setCell ⟨gA, 2, none⟩ (.slice Ab bs.length cb)).heap[gA]? = some (.cells #[.int .u64 cls, .slice Az zs.length cz, .slice Ab bs.length cb] 53 (0, 0)) from blk_put (cs := #[.int .u64 cls, .slice Az zs.length cz, .slice none 0 0]) (blk_put (cs := #[.int .u64 cls, .slice none 0 0, .slice none 0 0]) (blk_put (cs := #[.int .u64 0, .slice none 0 0, .slice none 0 0]) BKA.out 0 _ rfl) 1 _ rfl) 2 _ rfl)
          have m1_ := Aside0.mk (show Kd.R (Kd.int .u64) 36 (((w9.setCell ⟨gA, 0, none⟩ (.int .u64 cls)).setCell ⟨gA, 1, none⟩ (.slice Az zs.length cz)).setCell ⟨gA, 2, none⟩ (.slice Ab bs.length cb)) wq.heap.size (fun _ => True) (.slice Az zs.length cz) zs from R_put (R_put (R_put HZ.out rfl hneZ _ _) rfl hneZ _ _) rfl hneZ _ _)
          have m2_ := Aside0.mk (show Kd.R (Kd.int .u8) 5 (((w9.setCell ⟨gA, 0, none⟩ (.int .u64 cls)).setCell ⟨gA, 1, none⟩ (.slice Az zs.length cz)).setCell ⟨gA, 2, none⟩ (.slice Ab bs.length cb)) wq.heap.size (fun _ => True) (.slice Ab bs.length cb) bs from R_put (R_put (R_put HBY.out rfl hneY _ _) rfl hneY _ _) rfl hneY _ _)
          have m3_ := Aside0.mk (show Below wq.heap.size wq (((w9.setCell ⟨gA, 0, none⟩ (.int .u64 cls)).setCell ⟨gA, 1, none⟩ (.slice Az zs.length cz)).setCell ⟨gA, 2, none⟩ (.slice Ab bs.length cb)) from (Below.setCell (Below.setCell (Below.setCell HQ.out (p := ⟨gA, 0, none⟩) GEA.out _) (p := ⟨gA, 1, none⟩) GEA.out _) (p := ⟨gA, 2, none⟩) GEA.out _))
          go_wp2
          go_meet
          case rel => exact ⟨gA, Az, cz, Ab, cb, rfl, m0_, GEA, m1_, m2_, m3_⟩
        · refine Kd.R_lit_step (Kd.int .u8) _ 5 ?hg (N := 33) ?hd (xs := ([] : List Int)) (inner := []) (ok := fun _ => True) (okp := fun _ => True) ?hr ?hp (fun _ hk => hk) trivial (Below.refl _ _) (Nat.le_refl _) (by simp) ?_; (case hd => rfl); (case hg => rfl); (case hr => first | (go_simp; done) | (go_simp; rfl)); (case hp => exact Reps.none _ _)
          intro vl w9 ho1 hb hg_ hat_
          clear hg_ hat_
          have n0_ := Aside0.mk (blk_below BKA.out hb)
          have n1_ := Aside0.mk (Kd.R_lower ho1 (below_size (by repeat (first | (with_reducible first | exact HQ.out | apply below_alloc | apply pw_below_drewN | apply below_drew1) | exact HQ.out))))
          have n2_ := Aside0.mk (below_step (by repeat (first | (with_reducible first | exact HQ.out | apply below_alloc | apply pw_below_drewN | apply below_drew1) | exact HQ.out)) hb)
          clear BKA HQ ho1 hb
          have BKA := n0_
          have HLE := n1_
          have HQ := n2_
          clear n0_ n1_ n2_
          refine hK.out _ _ trivial (fun hHeld => ?_)
          clear hK K
          refine norm_ (a' := ?_) ?_ ?_
          rotate_left
          · show Act.put _ (some 33) _ = _
            simp only [Act.put, List.setIfInBounds_toArray, List.set_cons_zero, List.set_cons_succ, i64_w, i32_w]
            rfl
          refine two_ (i := 2) (j := 5) (Ni := some 32) (Nj := some 35) #[true, true, true, true, true, false, false, true, false] #[true, true, false, true, true, true, false, true, false] rfl rfl rfl rfl (two_of HT_.out (by kernel_rfl)) (by decide) (by decide) (fun K hK => ?_) (fun K hK => ?_)
          · refine Kd.R_make_step (Kd.int .u64) _ 36 ?hg (N := 32) ?hd 50 (.tmp 31) (.tmp 31) ?ho slots ?hx ?hy Try.underlying50 (.int .u64 0) 8 info36r_ rfl (by decide) (by decide) 0 (ok := fun _ => True) (okp := fun _ => True) rfl (fun _ h => h) trivial s0 (by omega) (Below.refl _ _) (Nat.le_refl _) ?_; (case hg => rfl); (case hd => rfl); (case ho => rfl); (case hx => rfl); (case hy => rfl)
            intro v1 w9 ho1 hb hg_ hat_
            clear hg_ hat_
            rw [HZS.out] at ho1
            have n0_ := Aside0.mk (blk_below BKA.out hb)
            have n1_ := Aside0.mk (Kd.R_below HLE.out hb)
            have n2_ := Aside0.mk (Kd.R_lower ho1 (below_size (by repeat (first | (with_reducible first | exact HQ.out | apply below_alloc | apply pw_below_drewN | apply below_drew1) | exact HQ.out))))
            have n3_ := Aside0.mk (below_step (by repeat (first | (with_reducible first | exact HQ.out | apply below_alloc | apply pw_below_drewN | apply below_drew1) | exact HQ.out)) hb)
            clear BKA HLE HQ ho1 hb
            have BKA := n0_
            have HLE := n1_
            have HZ := n2_
            have HQ := n3_
            clear n0_ n1_ n2_ n3_
            obtain ⟨Az, cz, ez⟩ := Kd.R_slice HZ.out
            subst ez
            refine hK.out _ _ trivial (fun hHeld => ?_)
            clear hK K
            refine norm_ (a' := ?_) ?_ ?_
            rotate_left
            · show Act.put _ (some 32) _ = _
              simp only [Act.put, List.setIfInBounds_toArray, List.set_cons_zero, List.set_cons_succ, i64_w, i32_w]
              rfl
            refine one_ (i := 5) (N := some 35) #[true, true, true, true, true, true, false, true, false] rfl rfl (one_of HT_.out (by kernel_rfl)) (by decide) (fun K hK => ?_)
            refine Kd.R_append_rows_step (Kd.int .u8) (w0 := wq) wq.heap.size (by rfl) (.tmp 33) (.tmp 34) 51 5 (.int .u8 0) 1 rfl Try.underlying51 info5_ rfl (by decide) (by omega) vl [] bs _ _ _ (fun _ => True) (fun _ => False) rfl rfl ?aO ?aR (fun _ _ h => h) (fun _ h => h.elim) ?aF ?aB ?aS ?aL ?_
            (case aO => exact HLE.out)
            (case aR => exact Kd.C_below HVB.out (by repeat (first | (with_reducible first | exact HQ.out | apply below_alloc | apply pw_below_drewN | apply below_drew1) | exact HQ.out)))
            (case aF => exact fun _ _ => trivial)
            (case aB => exact (by repeat (first | (with_reducible first | exact HQ.out | apply below_alloc | apply pw_below_drewN | apply below_drew1) | exact HQ.out)))
            (case aS => exact below_size (by repeat (first | (with_reducible first | exact HQ.out | apply below_alloc | apply pw_below_drewN | apply below_drew1) | exact HQ.out)))
            (case aL => simp only [List.length_nil]; omega)
            intro vb w9 ho hb hg hat
            rw [List.nil_append] at ho
            have n0_ := Aside0.mk (blk_grown BKA.out hg (Kd.R_ne HLE.out BKA.out (by decide)))
            have n1_ := Aside0.mk (Kd.R_over' HZ.out (Kd.R_typed HLE.out) (by decide) hg)
            have n2_ := Aside0.mk (ho)
            have n3_ := Aside0.mk (hb)
            clear BKA HZ HQ HLE ho hb hg hat
            have BKA := n0_
            have HZ := n1_
            have HBY := n2_
            have HQ := n3_
            clear n0_ n1_ n2_ n3_
            obtain ⟨Ab, cb, eb⟩ := Kd.R_slice HBY.out
            subst eb
            refine hK.out _ _ trivial (fun hHeld => ?_)
            clear hK K
            refine norm_ (a' := ?_) ?_ ?_
            rotate_left
            · show Act.put _ (some 35) _ = _
              simp only [Act.put, List.setIfInBounds_toArray, List.set_cons_zero, List.set_cons_succ, i64_w, i32_w]
              rfl
            refine pure_ (i := 6) (N := some 36) (v := ?_) (a' := ?_) #[true, true, true, true, true, true, true, true, false] rfl rfl (any_of HT_.out (by kernel_rfl)) (fun _ _ _ h => h) (Or.inl ⟨by rfl, ?_⟩) ?_ ?_
            rotate_left
            · intro w'
              go_simp
              with_reducible rfl
            rotate_left
            · simp only [Act.put, List.setIfInBounds_toArray, List.set_cons_zero, List.set_cons_succ, i64_w, i32_w]
              rfl
            have hz0 : w9.cell? ⟨gA, 0, none⟩ = some (.int .u64 0) := (blk_cell BKA.out 0).trans rfl
            have hz1 : w9.cell? ⟨gA, 1, none⟩ = some (.slice none 0 0) := (blk_cell BKA.out 1).trans rfl
            have hz2 : w9.cell? ⟨gA, 2, none⟩ = some (.slice none 0 0) := (blk_cell BKA.out 2).trans rfl
            have hf0 := blk_frozen BKA.out 0
            have hf1 := blk_frozen BKA.out 1
            have hf2 := blk_frozen BKA.out 2
            refine last_ (i := 8) (N := none) #[true, true, true, true, true, true, true, true, true] rfl rfl (one_of HT_.out (by kernel_rfl)) (by decide) (fun K hK => ?_)
            refine skip_ (w1 := ?_) (by rfl) rfl ?_ ?_
            rotate_left
            · go_simp
              rfl
            refine hK.out _ _ ?_
            clear hK K
            refine done_ (done_of HT_.out (by kernel_rfl)) ?_
            have hneZ := Kd.R_ne HZ.out BKA.out (by decide)
            have hneY := Kd.R_ne HBY.out BKA.out (by decide)
            have m0_ := Aside0.mk (show (((w9.setCell ⟨gA, 0, none⟩ (.int .u64 cls)).setCell ⟨gA, 1, none⟩ (.slice Az zs.length cz)).setCell ⟨gA, 2, none⟩ (.slice Ab bs.length cb)).heap[gA]? = some (.cells #[.int .u64 cls, .slice Az zs.length cz, .slice Ab bs.length cb] 53 (0, 0)) from blk_put (cs := #[.int .u64 cls, .slice Az zs.length cz, .slice none 0 0]) (blk_put (cs := #[.int .u64 cls, .slice none 0 0, .slice none 0 0]) (blk_put (cs := #[.int .u64 0, .slice none 0 0, .slice none 0 0]) BKA.out 0 _ rfl) 1 _ rfl) 2 _ rfl)
            have m1_ := Aside0.mk (show Kd.R (Kd.int .u64) 36 (((w9.setCell ⟨gA, 0, none⟩ (.int .u64 cls)).setCell ⟨gA, 1, none⟩ (.slice Az zs.length cz)).setCell ⟨gA, 2, none⟩ (.slice Ab bs.length cb)) wq.heap.size (fun _ => True) (.slice Az zs.length cz) zs from R_put (R_put (R_put HZ.out rfl hneZ _ _) rfl hneZ _ _) rfl hneZ _ _)
            have m2_ := Aside0.mk (show Kd.R (Kd.int .u8) 5 (((w9.setCell ⟨gA, 0, none⟩ (.int .u64 cls)).setCell ⟨gA, 1, none⟩ (.slice Az zs.length cz)).setCell ⟨gA, 2, none⟩ (.slice Ab bs.length cb)) wq.heap.size (fun _ => True) (.slice Ab bs.length cb) bs from R_put (R_put (R_put HBY.out rfl hneY _ _) rfl hneY _ _) rfl hneY _ _)
            have m3_ := Aside0.mk (show Below wq.heap.size wq (((w9.setCell ⟨gA, 0, none⟩ (.int .u64 cls)).setCell ⟨gA, 1, none⟩ (.slice Az zs.length cz)).setCell ⟨gA, 2, none⟩ (.slice Ab bs.length cb)) from (Below.setCell (Below.setCell (Below.setCell HQ.out (p := ⟨gA, 0, none⟩) GEA.out _) (p := ⟨gA, 1, none⟩) GEA.out _) (p := ⟨gA, 2, none⟩) GEA.out _))
            go_wp2
            go_meet
            case rel => exact ⟨gA, Az, cz, Ab, cb, rfl, m0_, GEA, m1_, m2_, m3_⟩
          · refine Kd.R_append_rows_step (Kd.int .u8) (w0 := wq) wq.heap.size (by rfl) (.tmp 33) (.tmp 34) 51 5 (.int .u8 0) 1 rfl Try.underlying51 info5_ rfl (by decide) (by omega) vl [] bs _ _ _ (fun _ => True) (fun _ => False) rfl rfl ?aO ?aR (fun _ _ h => h) (fun _ h => h.elim) ?aF ?aB ?aS ?aL ?_
            (case aO => exact HLE.out)
            (case aR => exact Kd.C_below HVB.out (by repeat (first | (with_reducible first | exact HQ.out | apply below_alloc | apply pw_below_drewN | apply below_drew1) | exact HQ.out)))
            (case aF => exact fun _ _ => trivial)
            (case aB => exact (by repeat (first | (with_reducible first | exact HQ.out | apply below_alloc | apply pw_below_drewN | apply below_drew1) | exact HQ.out)))
            (case aS => exact below_size (by repeat (first | (with_reducible first | exact HQ.out | apply below_alloc | apply pw_below_drewN | apply below_drew1) | exact HQ.out)))
            (case aL => simp only [List.length_nil]; omega)
            intro vb w9 ho hb hg hat
            rw [List.nil_append] at ho
            have n0_ := Aside0.mk (blk_grown BKA.out hg (Kd.R_ne HLE.out BKA.out (by decide)))
            have n1_ := Aside0.mk (ho)
            have n2_ := Aside0.mk (hb)
            clear BKA HQ HLE ho hb hg hat
            have BKA := n0_
            have HBY := n1_
            have HQ := n2_
            clear n0_ n1_ n2_
            obtain ⟨Ab, cb, eb⟩ := Kd.R_slice HBY.out
            subst eb
            refine hK.out _ _ trivial (fun hHeld => ?_)
            clear hK K
            refine norm_ (a' := ?_) ?_ ?_
            rotate_left
            · show Act.put _ (some 35) _ = _
              simp only [Act.put, List.setIfInBounds_toArray, List.set_cons_zero, List.set_cons_succ, i64_w, i32_w]
              rfl
            refine one_ (i := 2) (N := some 32) #[true, true, true, true, true, true, false, true, false] rfl rfl (one_of HT_.out (by kernel_rfl)) (by decide) (fun K hK => ?_)
            refine Kd.R_make_step (Kd.int .u64) _ 36 ?hg (N := 32) ?hd 50 (.tmp 31) (.tmp 31) ?ho slots ?hx ?hy Try.underlying50 (.int .u64 0) 8 info36r_ rfl (by decide) (by decide) 0 (ok := fun _ => True) (okp := fun _ => True) rfl (fun _ h => h) trivial s0 (by omega) (Below.refl _ _) (Nat.le_refl _) ?_; (case hg => rfl); (case hd => rfl); (case ho => rfl); (case hx => rfl); (case hy => rfl)
            intro v1 w9 ho1 hb hg_ hat_
            clear hg_ hat_
            rw [HZS.out] at ho1
            have n0_ := Aside0.mk (blk_below BKA.out hb)
            have n1_ := Aside0.mk (Kd.R_below HBY.out hb)
            have n2_ := Aside0.mk (Kd.R_lower ho1 (below_size (by repeat (first | (with_reducible first | exact HQ.out | apply below_alloc | apply pw_below_drewN | apply below_drew1) | exact HQ.out))))
            have n3_ := Aside0.mk (below_step (by repeat (first | (with_reducible first | exact HQ.out | apply below_alloc | apply pw_below_drewN | apply below_drew1) | exact HQ.out)) hb)
            clear BKA HBY HQ ho1 hb
            have BKA := n0_
            have HBY := n1_
            have HZ := n2_
            have HQ := n3_
            clear n0_ n1_ n2_ n3_
            obtain ⟨Az, cz, ez⟩ := Kd.R_slice HZ.out
            subst ez
            refine hK.out _ _ trivial (fun hHeld => ?_)
            clear hK K
            refine norm_ (a' := ?_) ?_ ?_
            rotate_left
            · show Act.put _ (some 32) _ = _
              simp only [Act.put, List.setIfInBounds_toArray, List.set_cons_zero, List.set_cons_succ, i64_w, i32_w]
              rfl
            refine pure_ (i := 6) (N := some 36) (v := ?_) (a' := ?_) #[true, true, true, true, true, true, true, true, false] rfl rfl (any_of HT_.out (by kernel_rfl)) (fun _ _ _ h => h) (Or.inl ⟨by rfl, ?_⟩) ?_ ?_
            rotate_left
            · intro w'
              go_simp
              with_reducible rfl
            rotate_left
            · simp only [Act.put, List.setIfInBounds_toArray, List.set_cons_zero, List.set_cons_succ, i64_w, i32_w]
              rfl
            have hz0 : w9.cell? ⟨gA, 0, none⟩ = some (.int .u64 0) := (blk_cell BKA.out 0).trans rfl
            have hz1 : w9.cell? ⟨gA, 1, none⟩ = some (.slice none 0 0) := (blk_cell BKA.out 1).trans rfl
            have hz2 : w9.cell? ⟨gA, 2, none⟩ = some (.slice none 0 0) := (blk_cell BKA.out 2).trans rfl
            have hf0 := blk_frozen BKA.out 0
            have hf1 := blk_frozen BKA.out 1
            have hf2 := blk_frozen BKA.out 2
            refine last_ (i := 8) (N := none) #[true, true, true, true, true, true, true, true, true] rfl rfl (one_of HT_.out (by kernel_rfl)) (by decide) (fun K hK => ?_)
            refine skip_ (w1 := ?_) (by rfl) rfl ?_ ?_
            rotate_left
            · go_simp
              rfl
            refine hK.out _ _ ?_
            clear hK K
            refine done_ (done_of HT_.out (by kernel_rfl)) ?_
            have hneZ := Kd.R_ne HZ.out BKA.out (by decide)
            have hneY := Kd.R_ne HBY.out BKA.out (by decide)
            have m0_ := Aside0.mk (show (((w9.setCell ⟨gA, 0, none⟩ (.int .u64 cls)).setCell ⟨gA, 1, none⟩ (.slice Az zs.length cz)).setCell ⟨gA, 2, none⟩ (.slice Ab bs.length cb)).heap[gA]? = some (.cells #[.int .u64 cls, .slice Az zs.length cz, .slice Ab bs.length cb] 53 (0, 0)) from blk_put (cs := #[.int .u64 cls, .slice Az zs.length cz, .slice none 0 0]) (blk_put (cs := #[.int .u64 cls, .slice none 0 0, .slice none 0 0]) (blk_put (cs := #[.int .u64 0, .slice none 0 0, .slice none 0 0]) BKA.out 0 _ rfl) 1 _ rfl) 2 _ rfl)
            have m1_ := Aside0.mk (show Kd.R (Kd.int .u64) 36 (((w9.setCell ⟨gA, 0, none⟩ (.int .u64 cls)).setCell ⟨gA, 1, none⟩ (.slice Az zs.length cz)).setCell ⟨gA, 2, none⟩ (.slice Ab bs.length cb)) wq.heap.size (fun _ => True) (.slice Az zs.length cz) zs from R_put (R_put (R_put HZ.out rfl hneZ _ _) rfl hneZ _ _) rfl hneZ _ _)
            have m2_ := Aside0.mk (show Kd.R (Kd.int .u8) 5 (((w9.setCell ⟨gA, 0, none⟩ (.int .u64 cls)).setCell ⟨gA, 1, none⟩ (.slice Az zs.length cz)).setCell ⟨gA, 2, none⟩ (.slice Ab bs.length cb)) wq.heap.size (fun _ => True) (.slice Ab bs.length cb) bs from R_put (R_put (R_put HBY.out rfl hneY _ _) rfl hneY _ _) rfl hneY _ _)
            have m3_ := Aside0.mk (show Below wq.heap.size wq (((w9.setCell ⟨gA, 0, none⟩ (.int .u64 cls)).setCell ⟨gA, 1, none⟩ (.slice Az zs.length cz)).setCell ⟨gA, 2, none⟩ (.slice Ab bs.length cb)) from (Below.setCell (Below.setCell (Below.setCell HQ.out (p := ⟨gA, 0, none⟩) GEA.out _) (p := ⟨gA, 1, none⟩) GEA.out _) (p := ⟨gA, 2, none⟩) GEA.out _))
            go_wp2
            go_meet
            case rel => exact ⟨gA, Az, cz, Ab, cb, rfl, m0_, GEA, m1_, m2_, m3_⟩
  case rest =>
    obtain ⟨gA, Az, cz, Ab, cb, rfl, BKA, GEA, HZ, HBY, HQ⟩ := hcut
    have HSQ : Aside0 (∃ c0, Kd.S k53 53 wc B (fun k => ok k ∧ k < wq.heap.size) c0 l ∧ wc.heap[g]? = some (.cells #[c0, .int .i64 o, .int .i64 wd] 46 (0, 0))) := ⟨by
      obtain ⟨v0, hk1, _, _, hS⟩ := HO.out
      exact ⟨v0, Kd.S_old hS HQ.out, (HQ.out.block g (blk_lt hk1)).trans hk1⟩⟩
    have HGG : Aside0 (B ≤ g ∧ ok g) := ⟨by obtain ⟨v0, hk1, hk2, hk3, _⟩ := HO.out; exact ⟨hk2, hk3⟩⟩
    have n0_ := Aside0.mk (HO.out.below HQ.out)
    clear HO HVB
    have HO := n0_
    clear n0_
    obtain ⟨v0, hS0, hk1⟩ := HSQ.out
    obtain ⟨gl, c0, ev0, _, _, _⟩ := Kd.S_form hS0 HPOS.out
    subst ev0
    have BKg := Aside0.mk hk1
    have HSL := Aside0.mk hS0
    have HLC0 := Aside0.mk (Kd.S_reads' hS0).2.1
    have HRV := Aside0.mk (Kd.S_reads' hS0).2.2
    clear hk1 hS0 HSQ
    have GBW := Aside0.mk (show B ≤ w.heap.size from HGB.out)
    have hlw : wrap64 ((l.length : Int) + 1) = (l.length : Int) + 1 := by unfold wrap64; omega
    by_cases hlo : (l.length : Int) = o
    · have e_ : makeE l o wd (usedL l) cls slots bs = 60 := by unfold makeE; rw [if_pos HTT.out, if_pos ⟨s0, s1, hb⟩, if_neg (fun h => h.1 hlo)]
      have HE := Aside0.mk e_
      clear e_
      have b3 : decide (o < (l.length : Int) + 1) = true := decide_eq_true (by omega)
      clear hlo
      have k0 : wc.cell? ⟨g, 0, none⟩ = some (.slice (some ⟨gl, 0, none⟩) l.length c0) := (blk_cell BKg.out 0).trans rfl
      have k1 : wc.cell? ⟨g, 1, none⟩ = some (.int .i64 o) := (blk_cell BKg.out 1).trans rfl
      go_wp2_with (fail)
      repeat (go_quiet (fail); try go_wp2)
      go_ret2
      unfold makeW makeL
      rw [HE.out, if_neg (by decide), if_neg (by decide)]
      exact ⟨rfl, HO.out.below (by repeat (first | exact Below.refl _ _ | apply pw_below_drewN | apply below_drew1)), (Frm.of_below HBW.out).trans ((Frm.of_below HQ.out).trans (Frm.of_below ((by repeat (first | exact Below.refl _ _ | apply pw_below_drewN | apply below_drew1)) : Below wc.heap.size wc _)))⟩
    · have b3 : decide (o < (l.length : Int) + 1) = false := decide_eq_false (by omega)
      have hu0 := (usedL_le hs.2).1
      have hu1 := (usedL_le hs.2).2
      obtain ⟨sz, hsz⟩ : ∃ sz, sz = szO (newO cls slots bs) := ⟨_, rfl⟩
      have hzz := szO_le (x := newO cls slots bs) (newO_small s1 hb)
      rw [← hsz] at hzz
      have HSZ := Aside0.mk (show monticuleref18_Size.f cls zs bs = some sz by rw [hsz, ← HZS.out]; exact size18 (x := newO cls slots bs) (newO_small s1 hb))
      have hadd : wrap64 (usedL l + sz) = usedL l + sz := by unfold wrap64; omega
      have HSE := Aside0.mk hsz
      by_cases hfu : wd < usedL l + sz
      · have e_ : makeE l o wd (usedL l) cls slots bs = 60 := by unfold makeE; rw [if_pos HTT.out, if_pos ⟨s0, s1, hb⟩, if_neg (fun h => by rw [← hsz] at h; omega)]
        have HE := Aside0.mk e_
        clear e_
        have b4 : decide (wd < usedL l + sz) = true := decide_eq_true hfu
        clear hsz
        go_wp2_with (fail)
        refine start_ (n := 26) (S := fun w' => w'.cell? ⟨g, 0, none⟩ = some (.slice (some ⟨gl, 0, none⟩) l.length c0) ∧ w'.cell? ⟨g, 1, none⟩ = some (.int .i64 o) ∧ w'.cell? ⟨g, 2, none⟩ = some (.int .i64 wd) ∧ w'.cell? ⟨gA, 0, none⟩ = some (.int .u64 cls) ∧ w'.cell? ⟨gA, 1, none⟩ = some (.slice Az zs.length cz) ∧ w'.cell? ⟨gA, 2, none⟩ = some (.slice Ab bs.length cb)) (ds := []) #[false, false, false, false, false, false, false, false, false, false, false, false, false, false, false, false, false, false, false, false, false, false, false, false, false, false] (by kernel_rfl) rfl rfl ⟨(blk_cell (blk_drew BKg.out) 0).trans rfl, (blk_cell (blk_drew BKg.out) 1).trans rfl, (blk_cell (blk_drew BKg.out) 2).trans rfl, (blk_cell (blk_drew BKA.out) 0).trans rfl, (blk_cell (blk_drew BKA.out) 1).trans rfl, (blk_cell (blk_drew BKA.out) 2).trans rfl⟩ (fun hHeld => ?_); refine with_tabW rmk.tab6 rmk.bits6 (fun HT_ HW_ => ?_)
        have n0_ := Aside0.mk (blk_drew BKg.out)
        have n1_ := Aside0.mk (blk_drew BKA.out)
        have n2_ := Aside0.mk (Kd.R_drew HZ.out)
        have n3_ := Aside0.mk (Kd.R_drew HBY.out)
        have n4_ := Aside0.mk (below_drew HQ.out)
        have n5_ := Aside0.mk (HO.out.below (below_drew (Below.refl _ _)))
        have n6_ := Aside0.mk (Kd.C_drew HRV.out)
        have n7_ := Aside0.mk (Kd.S_drew HSL.out)
        generalize hw_ : wc.drew = w6 at n0_ n1_ n2_ n3_ n4_ n5_ n6_ n7_ hHeld ⊢
        clear hw_ BKg BKA HZ HBY HQ HO HRV HSL
        have BKg := n0_
        have BKA := n1_
        have HZ := n2_
        have HBY := n3_
        have HQ := n4_
        have HO := n5_
        have HRV := n6_
        have HSL := n7_
        clear n0_ n1_ n2_ n3_ n4_ n5_ n6_ n7_
        refine pure_ (i := 0) (N := some 37) (v := ?_) (a' := ?_) #[true, false, false, false, false, false, false, false, false, false, false, false, false, false, false, false, false, false, false, false, false, false, false, false, false, false] rfl rfl (any_of HT_.out (by kernel_rfl)) (fun _ _ _ h => h) (Or.inl ⟨by rfl, ?_⟩) ?_ ?_
        rotate_left
        · intro w'
          go_simp
          with_reducible rfl
        rotate_left
        · simp only [Act.put, List.setIfInBounds_toArray, List.set_cons_zero, List.set_cons_succ, i64_w, i32_w]
          rfl
        refine pure_ (i := 1) (N := some 38) (v := ?_) (a' := ?_) #[true, true, false, false, false, false, false, false, false, false, false, false, false, false, false, false, false, false, false, false, false, false, false, false, false, false] rfl rfl (any_of HT_.out (by kernel_rfl)) (fun _ _ _ h => h) (Or.inl ⟨by rfl, ?_⟩) ?_ ?_
        rotate_left
        · intro w'
          go_simp
          with_reducible rfl
        rotate_left
        · simp only [Act.put, List.setIfInBounds_toArray, List.set_cons_zero, List.set_cons_succ, i64_w, i32_w]
          rfl
        refine pure_ (i := 2) (N := some 39) (v := ?_) (a' := ?_) #[true, true, true, false, false, false, false, false, false, false, false, false, false, false, false, false, false, false, false, false, false, false, false, false, false, false] rfl rfl (any_of HT_.out (by kernel_rfl)) (fun _ _ _ h => h) (Or.inl ⟨by rfl, ?_⟩) ?_ ?_
        rotate_left
        · intro w'
          go_simp
          with_reducible rfl
        rotate_left
        · simp only [Act.put, List.setIfInBounds_toArray, List.set_cons_zero, List.set_cons_succ, i64_w, i32_w]
          rfl
        refine pure_ (i := 6) (N := some 43) (v := ?_) (a' := ?_) #[true, true, true, false, false, false, true, false, false, false, false, false, false, false, false, false, false, false, false, false, false, false, false, false, false, false] rfl rfl (any_of HT_.out (by kernel_rfl)) (fun _ _ _ h => h) (Or.inl ⟨by rfl, ?_⟩) ?_ ?_
        rotate_left
        · intro w'
          go_simp
          with_reducible rfl
        rotate_left
        · simp only [Act.put, List.setIfInBounds_toArray, List.set_cons_zero, List.set_cons_succ, i64_w, i32_w]
          rfl
        refine pure_ (i := 7) (N := some 44) (v := ?_) (a' := ?_) #[true, true, true, false, false, false, true, true, false, false, false, false, false, false, false, false, false, false, false, false, false, false, false, false, false, false] rfl rfl (any_of HT_.out (by kernel_rfl)) (fun _ _ _ h => h) (Or.inl ⟨by rfl, ?_⟩) ?_ ?_
        rotate_left
        · intro w'
          go_simp
          with_reducible rfl
        rotate_left
        · simp only [Act.put, List.setIfInBounds_toArray, List.set_cons_zero, List.set_cons_succ, i64_w, i32_w]
          rfl
        refine pure_ (i := 8) (N := some 45) (v := ?_) (a' := ?_) #[true, true, true, false, false, false, true, true, true, false, false, false, false, false, false, false, false, false, false, false, false, false, false, false, false, false] rfl rfl (any_of HT_.out (by kernel_rfl)) (fun _ _ _ h => h) (Or.inl ⟨by rfl, ?_⟩) ?_ ?_
        rotate_left
        · intro w'
          go_simp
          with_reducible rfl
        rotate_left
        · simp only [Act.put, List.setIfInBounds_toArray, List.set_cons_zero, List.set_cons_succ, i64_w, i32_w]
          rfl
        refine take_ (i := 3) (N := some 40) (v := ?_) (a' := ?_) #[true, true, true, true, false, false, true, true, true, false, false, false, false, false, false, false, false, false, false, false, false, false, false, false, false, false] rfl rfl (take_ofW HT_.out HW_.out (by kernel_rfl)) (fun _ _ _ h => h) (Or.inl ⟨by rfl, ?_⟩) hHeld ?_ ?_
        rotate_left
        · rintro w' ⟨s0, s1, s2, s3, s4, s5⟩
          go_simp
          with_reducible rfl
        rotate_left
        · simp only [Act.put, List.setIfInBounds_toArray, List.set_cons_zero, List.set_cons_succ, i64_w, i32_w]
          rfl
        refine take_ (i := 9) (N := some 46) (v := ?_) (a' := ?_) #[true, true, true, true, false, false, true, true, true, true, false, false, false, false, false, false, false, false, false, false, false, false, false, false, false, false] rfl rfl (take_ofW HT_.out HW_.out (by kernel_rfl)) (fun _ _ _ h => h) (Or.inl ⟨by rfl, ?_⟩) hHeld ?_ ?_
        rotate_left
        · rintro w' ⟨s0, s1, s2, s3, s4, s5⟩
          go_simp
          with_reducible rfl
        rotate_left
        · simp only [Act.put, List.setIfInBounds_toArray, List.set_cons_zero, List.set_cons_succ, i64_w, i32_w]
          rfl
        refine pure_ (i := 4) (N := some 41) (v := ?_) (a' := ?_) #[true, true, true, true, true, false, true, true, true, true, false, false, false, false, false, false, false, false, false, false, false, false, false, false, false, false] rfl rfl (any_of HT_.out (by kernel_rfl)) (fun _ _ _ h => h) (Or.inl ⟨by rfl, ?_⟩) ?_ ?_
        rotate_left
        · intro w'
          go_simp
          with_reducible rfl
        rotate_left
        · simp only [Act.put, List.setIfInBounds_toArray, List.set_cons_zero, List.set_cons_succ, i64_w, i32_w]
          rfl
        refine pure_ (i := 5) (N := some 42) (v := ?_) (a' := ?_) #[true, true, true, true, true, true, true, true, true, true, false, false, false, false, false, false, false, false, false, false, false, false, false, false, false, false] rfl rfl (any_of HT_.out (by kernel_rfl)) (fun _ _ _ h => h) (Or.inl ⟨by rfl, ?_⟩) ?_ ?_
        rotate_left
        · intro w'
          go_simp
          with_reducible rfl
        rotate_left
        · simp only [Act.put, List.setIfInBounds_toArray, List.set_cons_zero, List.set_cons_succ, i64_w, i32_w]
          rfl
        refine pure_ (i := 10) (N := some 47) (v := ?_) (a' := ?_) #[true, true, true, true, true, true, true, true, true, true, true, false, false, false, false, false, false, false, false, false, false, false, false, false, false, false] rfl rfl (any_of HT_.out (by kernel_rfl)) (fun _ _ _ h => h) (Or.inl ⟨by rfl, ?_⟩) ?_ ?_
        rotate_left
        · intro w'
          go_simp
          with_reducible rfl
        rotate_left
        · simp only [Act.put, List.setIfInBounds_toArray, List.set_cons_zero, List.set_cons_succ, i64_w, i32_w]
          rfl
        refine pure_ (i := 11) (N := some 48) (v := ?_) (a' := ?_) #[true, true, true, true, true, true, true, true, true, true, true, true, false, false, false, false, false, false, false, false, false, false, false, false, false, false] rfl rfl (any_of HT_.out (by kernel_rfl)) (fun _ _ _ h => h) (Or.inl ⟨by rfl, ?_⟩) ?_ ?_
        rotate_left
        · intro w'
          go_simp
          with_reducible rfl
        rotate_left
        · simp only [Act.put, List.setIfInBounds_toArray, List.set_cons_zero, List.set_cons_succ, i64_w, i32_w]
          rfl
        refine pure_ (i := 12) (N := some 49) (v := ?_) (a' := ?_) #[true, true, true, true, true, true, true, true, true, true, true, true, true, false, false, false, false, false, false, false, false, false, false, false, false, false] rfl rfl (any_of HT_.out (by kernel_rfl)) (fun _ _ _ h => h) (Or.inl ⟨by rfl, ?_⟩) ?_ ?_
        rotate_left
        · intro w'
          go_simp
          with_reducible rfl
        rotate_left
        · simp only [Act.put, List.setIfInBounds_toArray, List.set_cons_zero, List.set_cons_succ, i64_w, i32_w]
          rfl
        refine pure_ (i := 13) (N := some 50) (v := ?_) (a' := ?_) #[true, true, true, true, true, true, true, true, true, true, true, true, true, true, false, false, false, false, false, false, false, false, false, false, false, false] rfl rfl (any_of HT_.out (by kernel_rfl)) (fun _ _ _ h => h) (Or.inl ⟨by rfl, ?_⟩) ?_ ?_
        rotate_left
        · intro w'
          go_simp
          with_reducible rfl
        rotate_left
        · simp only [Act.put, List.setIfInBounds_toArray, List.set_cons_zero, List.set_cons_succ, i64_w, i32_w]
          rfl
        refine pure_ (i := 14) (N := some 51) (v := ?_) (a' := ?_) #[true, true, true, true, true, true, true, true, true, true, true, true, true, true, true, false, false, false, false, false, false, false, false, false, false, false] rfl rfl (any_of HT_.out (by kernel_rfl)) (fun _ _ _ h => h) (Or.inl ⟨by rfl, ?_⟩) ?_ ?_
        rotate_left
        · intro w'
          go_simp
          with_reducible rfl
        rotate_left
        · simp only [Act.put, List.setIfInBounds_toArray, List.set_cons_zero, List.set_cons_succ, i64_w, i32_w]
          rfl
        refine pure_ (i := 20) (N := some 57) (v := ?_) (a' := ?_) #[true, true, true, true, true, true, true, true, true, true, true, true, true, true, true, false, false, false, false, false, true, false, false, false, false, false] rfl rfl (any_of HT_.out (by kernel_rfl)) (fun _ _ _ h => h) (Or.inl ⟨by rfl, ?_⟩) ?_ ?_
        rotate_left
        · intro w'
          go_simp
          with_reducible rfl
        rotate_left
        · simp only [Act.put, List.setIfInBounds_toArray, List.set_cons_zero, List.set_cons_succ, i64_w, i32_w]
          rfl
        refine pure_ (i := 21) (N := some 58) (v := ?_) (a' := ?_) #[true, true, true, true, true, true, true, true, true, true, true, true, true, true, true, false, false, false, false, false, true, true, false, false, false, false] rfl rfl (any_of HT_.out (by kernel_rfl)) (fun _ _ _ h => h) (Or.inl ⟨by rfl, ?_⟩) ?_ ?_
        rotate_left
        · intro w'
          go_simp
          with_reducible rfl
        rotate_left
        · simp only [Act.put, List.setIfInBounds_toArray, List.set_cons_zero, List.set_cons_succ, i64_w, i32_w]
          rfl
        refine pure_ (i := 22) (N := some 59) (v := ?_) (a' := ?_) #[true, true, true, true, true, true, true, true, true, true, true, true, true, true, true, false, false, false, false, false, true, true, true, false, false, false] rfl rfl (any_of HT_.out (by kernel_rfl)) (fun _ _ _ h => h) (Or.inl ⟨by rfl, ?_⟩) ?_ ?_
        rotate_left
        · intro w'
          go_simp
          with_reducible rfl
        rotate_left
        · simp only [Act.put, List.setIfInBounds_toArray, List.set_cons_zero, List.set_cons_succ, i64_w, i32_w]
          rfl
        refine take_ (i := 15) (N := some 52) (v := ?_) (a' := ?_) #[true, true, true, true, true, true, true, true, true, true, true, true, true, true, true, true, false, false, false, false, true, true, true, false, false, false] rfl rfl (take_ofW HT_.out HW_.out (by kernel_rfl)) (fun _ _ _ h => h) (Or.inl ⟨by rfl, ?_⟩) hHeld ?_ ?_
        rotate_left
        · rintro w' ⟨s0, s1, s2, s3, s4, s5⟩
          go_simp
          with_reducible rfl
        rotate_left
        · simp only [Act.put, List.setIfInBounds_toArray, List.set_cons_zero, List.set_cons_succ, i64_w, i32_w]
          rfl
        refine take_ (i := 17) (N := some 54) (v := ?_) (a' := ?_) #[true, true, true, true, true, true, true, true, true, true, true, true, true, true, true, true, false, true, false, false, true, true, true, false, false, false] rfl rfl (take_ofW HT_.out HW_.out (by kernel_rfl)) (fun _ _ _ h => h) (Or.inl ⟨by rfl, ?_⟩) hHeld ?_ ?_
        rotate_left
        · rintro w' ⟨s0, s1, s2, s3, s4, s5⟩
          go_simp
          with_reducible rfl
        rotate_left
        · simp only [Act.put, List.setIfInBounds_toArray, List.set_cons_zero, List.set_cons_succ, i64_w, i32_w]
          rfl
        refine take_ (i := 23) (N := some 60) (v := ?_) (a' := ?_) #[true, true, true, true, true, true, true, true, true, true, true, true, true, true, true, true, false, true, false, false, true, true, true, true, false, false] rfl rfl (take_ofW HT_.out HW_.out (by kernel_rfl)) (fun _ _ _ h => h) (Or.inl ⟨by rfl, ?_⟩) hHeld ?_ ?_
        rotate_left
        · rintro w' ⟨s0, s1, s2, s3, s4, s5⟩
          go_simp
          with_reducible rfl
        rotate_left
        · simp only [Act.put, List.setIfInBounds_toArray, List.set_cons_zero, List.set_cons_succ, i64_w, i32_w]
          rfl
        refine one_ (i := 16) (N := some 53) #[true, true, true, true, true, true, true, true, true, true, true, true, true, true, true, true, true, true, false, false, true, true, true, true, false, false] rfl rfl (one_of HT_.out (by kernel_rfl)) (by decide) (fun K hK => ?_)
        refine goes_ Try.func25 (by kernel_rfl) rfl #[.slice (some ⟨gl, 0, none⟩) l.length c0] (by rfl) rfl rfl (by (try simp only [List.map_toArray, List.map_cons, List.map_nil]); first | done | rfl | (simp only [List.length_drop, List.length_take]; rfl)) ?_
        with_reducible refine (monticuleref18_Used.calls 10000 (some ⟨gl, 0, none⟩) c0 l (usedL l) _ HRV.out HLC0.out HUV.out).mono ?_
        rintro e w7 ⟨rfl, hb⟩
        have n0_ := Aside0.mk (blk_below BKg.out hb)
        have n1_ := Aside0.mk (blk_below BKA.out hb)
        have n2_ := Aside0.mk (Kd.R_below HZ.out hb)
        have n3_ := Aside0.mk (Kd.R_below HBY.out hb)
        have n4_ := Aside0.mk (below_step HQ.out hb)
        have n5_ := Aside0.mk (HO.out.below hb)
        have n6_ := Aside0.mk (Kd.C_below HRV.out hb)
        have n7_ := Aside0.mk (Kd.S_below HSL.out hb)
        clear BKg BKA HZ HBY HQ HO HRV HSL hb
        have BKg := n0_
        have BKA := n1_
        have HZ := n2_
        have HBY := n3_
        have HQ := n4_
        have HO := n5_
        have HRV := n6_
        have HSL := n7_
        clear n0_ n1_ n2_ n3_ n4_ n5_ n6_ n7_
        refine ⟨_, rfl, ?_⟩
        refine hK.out _ _ ⟨(blk_cell BKg.out 0).trans rfl, (blk_cell BKg.out 1).trans rfl, (blk_cell BKg.out 2).trans rfl, (blk_cell BKA.out 0).trans rfl, (blk_cell BKA.out 1).trans rfl, (blk_cell BKA.out 2).trans rfl⟩ (fun hHeld => ?_)
        clear hK K
        refine norm_ (a' := ?_) ?_ ?_
        rotate_left
        · show Act.put _ (some 53) _ = _
          simp only [Act.put, List.setIfInBounds_toArray, List.set_cons_zero, List.set_cons_succ, i64_w, i32_w]
          rfl
        refine one_ (i := 18) (N := some 55) #[true, true, true, true, true, true, true, true, true, true, true, true, true, true, true, true, true, true, true, false, true, true, true, true, false, false] rfl rfl (one_of HT_.out (by kernel_rfl)) (by decide) (fun K hK => ?_)
        refine goes_ Try.func61 (by kernel_rfl) rfl #[.agg #[.int .u64 cls, .slice Az zs.length cz, .slice Ab bs.length cb]] (by rfl) rfl rfl (by (try simp only [List.map_toArray, List.map_cons, List.map_nil]); first | done | rfl | (simp only [List.length_drop, List.length_take]; rfl)) ?_
        with_reducible refine (monticuleref18_Size.calls cls Az cz zs Ab cb bs sz _ (Kd.R_reads' HZ.out).2.2 (Kd.R_reads' HZ.out).2.1 (Kd.R_reads' HBY.out).2.2 (Kd.R_reads' HBY.out).2.1 HSZ.out).mono ?_
        rintro e w8 ⟨rfl, hb⟩
        have n0_ := Aside0.mk (blk_below BKg.out hb)
        have n1_ := Aside0.mk (blk_below BKA.out hb)
        have n2_ := Aside0.mk (Kd.R_below HZ.out hb)
        have n3_ := Aside0.mk (Kd.R_below HBY.out hb)
        have n4_ := Aside0.mk (below_step HQ.out hb)
        have n5_ := Aside0.mk (HO.out.below hb)
        have n6_ := Aside0.mk (Kd.C_below HRV.out hb)
        have n7_ := Aside0.mk (Kd.S_below HSL.out hb)
        clear BKg BKA HZ HBY HQ HO HRV HSL hb
        have BKg := n0_
        have BKA := n1_
        have HZ := n2_
        have HBY := n3_
        have HQ := n4_
        have HO := n5_
        have HRV := n6_
        have HSL := n7_
        clear n0_ n1_ n2_ n3_ n4_ n5_ n6_ n7_
        refine ⟨_, rfl, ?_⟩
        refine hK.out _ _ ⟨(blk_cell BKg.out 0).trans rfl, (blk_cell BKg.out 1).trans rfl, (blk_cell BKg.out 2).trans rfl, (blk_cell BKA.out 0).trans rfl, (blk_cell BKA.out 1).trans rfl, (blk_cell BKA.out 2).trans rfl⟩ (fun hHeld => ?_)
        clear hK K
        refine norm_ (a' := ?_) ?_ ?_
        rotate_left
        · show Act.put _ (some 55) _ = _
          simp only [Act.put, List.setIfInBounds_toArray, List.set_cons_zero, List.set_cons_succ, i64_w, i32_w]
          rfl
        refine pure_ (i := 19) (N := some 56) (v := ?_) (a' := ?_) #[true, true, true, true, true, true, true, true, true, true, true, true, true, true, true, true, true, true, true, true, true, true, true, true, false, false] rfl rfl (any_of HT_.out (by kernel_rfl)) (fun _ _ _ h => h) (Or.inl ⟨by rfl, ?_⟩) ?_ ?_
        rotate_left
        · intro w'
          go_simp
          with_reducible rfl
        rotate_left
        · simp only [Act.put, List.setIfInBounds_toArray, List.set_cons_zero, List.set_cons_succ, i64_w, i32_w]
          rfl
        refine pure_ (i := 24) (N := some 61) (v := ?_) (a' := ?_) #[true, true, true, true, true, true, true, true, true, true, true, true, true, true, true, true, true, true, true, true, true, true, true, true, true, false] rfl rfl (any_of HT_.out (by kernel_rfl)) (fun _ _ _ h => h) (Or.inl ⟨by rfl, ?_⟩) ?_ ?_
        rotate_left
        · intro w'
          go_simp
          with_reducible rfl
        rotate_left
        · simp only [Act.put, List.setIfInBounds_toArray, List.set_cons_zero, List.set_cons_succ, i64_w, i32_w]
          rfl
        refine pure_ (i := 25) (N := some 62) (v := ?_) (a' := ?_) #[true, true, true, true, true, true, true, true, true, true, true, true, true, true, true, true, true, true, true, true, true, true, true, true, true, true] rfl rfl (any_of HT_.out (by kernel_rfl)) (fun _ _ _ h => h) (Or.inl ⟨by rfl, ?_⟩) ?_ ?_
        rotate_left
        · intro w'
          go_simp
          with_reducible rfl
        rotate_left
        · simp only [Act.put, List.setIfInBounds_toArray, List.set_cons_zero, List.set_cons_succ, i64_w, i32_w]
          rfl
        refine done_ (done_of HT_.out (by kernel_rfl)) ?_
        go_wp2
        go_ret2
        unfold makeW makeL
        rw [HE.out, if_neg (by decide), if_neg (by decide)]
        exact ⟨rfl, HO.out, (Frm.of_below HBW.out).trans (Frm.of_below HQ.out)⟩
      · have e_ : makeE l o wd (usedL l) cls slots bs = 0 := by unfold makeE; rw [if_pos HTT.out, if_pos ⟨s0, s1, hb⟩, if_pos ⟨hlo, by rw [← hsz]; omega⟩]
        have HE := Aside0.mk e_
        clear e_
        have b4 : decide (wd < usedL l + sz) = false := decide_eq_false hfu
        clear hsz
        go_wp2_with (fail)
        refine start_ (n := 26) (S := fun w' => w'.cell? ⟨g, 0, none⟩ = some (.slice (some ⟨gl, 0, none⟩) l.length c0) ∧ w'.cell? ⟨g, 1, none⟩ = some (.int .i64 o) ∧ w'.cell? ⟨g, 2, none⟩ = some (.int .i64 wd) ∧ w'.cell? ⟨gA, 0, none⟩ = some (.int .u64 cls) ∧ w'.cell? ⟨gA, 1, none⟩ = some (.slice Az zs.length cz) ∧ w'.cell? ⟨gA, 2, none⟩ = some (.slice Ab bs.length cb)) (ds := []) #[false, false, false, false, false, false, false, false, false, false, false, false, false, false, false, false, false, false, false, false, false, false, false, false, false, false] (by kernel_rfl) rfl rfl ⟨(blk_cell (blk_drew BKg.out) 0).trans rfl, (blk_cell (blk_drew BKg.out) 1).trans rfl, (blk_cell (blk_drew BKg.out) 2).trans rfl, (blk_cell (blk_drew BKA.out) 0).trans rfl, (blk_cell (blk_drew BKA.out) 1).trans rfl, (blk_cell (blk_drew BKA.out) 2).trans rfl⟩ (fun hHeld => ?_); refine with_tabW rmk.tab6 rmk.bits6 (fun HT_ HW_ => ?_)
        have n0_ := Aside0.mk (blk_drew BKg.out)
        have n1_ := Aside0.mk (blk_drew BKA.out)
        have n2_ := Aside0.mk (Kd.R_drew HZ.out)
        have n3_ := Aside0.mk (Kd.R_drew HBY.out)
        have n4_ := Aside0.mk (below_drew HQ.out)
        have n5_ := Aside0.mk (HO.out.below (below_drew (Below.refl _ _)))
        have n6_ := Aside0.mk (Kd.C_drew HRV.out)
        have n7_ := Aside0.mk (Kd.S_drew HSL.out)
        generalize hw_ : wc.drew = w6 at n0_ n1_ n2_ n3_ n4_ n5_ n6_ n7_ hHeld ⊢
        clear hw_ BKg BKA HZ HBY HQ HO HRV HSL
        have BKg := n0_
        have BKA := n1_
        have HZ := n2_
        have HBY := n3_
        have HQ := n4_
        have HO := n5_
        have HRV := n6_
        have HSL := n7_
        clear n0_ n1_ n2_ n3_ n4_ n5_ n6_ n7_
        refine pure_ (i := 0) (N := some 37) (v := ?_) (a' := ?_) #[true, false, false, false, false, false, false, false, false, false, false, false, false, false, false, false, false, false, false, false, false, false, false, false, false, false] rfl rfl (any_of HT_.out (by kernel_rfl)) (fun _ _ _ h => h) (Or.inl ⟨by rfl, ?_⟩) ?_ ?_
        rotate_left
        · intro w'
          go_simp
          with_reducible rfl
        rotate_left
        · simp only [Act.put, List.setIfInBounds_toArray, List.set_cons_zero, List.set_cons_succ, i64_w, i32_w]
          rfl
        refine pure_ (i := 1) (N := some 38) (v := ?_) (a' := ?_) #[true, true, false, false, false, false, false, false, false, false, false, false, false, false, false, false, false, false, false, false, false, false, false, false, false, false] rfl rfl (any_of HT_.out (by kernel_rfl)) (fun _ _ _ h => h) (Or.inl ⟨by rfl, ?_⟩) ?_ ?_
        rotate_left
        · intro w'
          go_simp
          with_reducible rfl
        rotate_left
        · simp only [Act.put, List.setIfInBounds_toArray, List.set_cons_zero, List.set_cons_succ, i64_w, i32_w]
          rfl
        refine pure_ (i := 2) (N := some 39) (v := ?_) (a' := ?_) #[true, true, true, false, false, false, false, false, false, false, false, false, false, false, false, false, false, false, false, false, false, false, false, false, false, false] rfl rfl (any_of HT_.out (by kernel_rfl)) (fun _ _ _ h => h) (Or.inl ⟨by rfl, ?_⟩) ?_ ?_
        rotate_left
        · intro w'
          go_simp
          with_reducible rfl
        rotate_left
        · simp only [Act.put, List.setIfInBounds_toArray, List.set_cons_zero, List.set_cons_succ, i64_w, i32_w]
          rfl
        refine pure_ (i := 6) (N := some 43) (v := ?_) (a' := ?_) #[true, true, true, false, false, false, true, false, false, false, false, false, false, false, false, false, false, false, false, false, false, false, false, false, false, false] rfl rfl (any_of HT_.out (by kernel_rfl)) (fun _ _ _ h => h) (Or.inl ⟨by rfl, ?_⟩) ?_ ?_
        rotate_left
        · intro w'
          go_simp
          with_reducible rfl
        rotate_left
        · simp only [Act.put, List.setIfInBounds_toArray, List.set_cons_zero, List.set_cons_succ, i64_w, i32_w]
          rfl
        refine pure_ (i := 7) (N := some 44) (v := ?_) (a' := ?_) #[true, true, true, false, false, false, true, true, false, false, false, false, false, false, false, false, false, false, false, false, false, false, false, false, false, false] rfl rfl (any_of HT_.out (by kernel_rfl)) (fun _ _ _ h => h) (Or.inl ⟨by rfl, ?_⟩) ?_ ?_
        rotate_left
        · intro w'
          go_simp
          with_reducible rfl
        rotate_left
        · simp only [Act.put, List.setIfInBounds_toArray, List.set_cons_zero, List.set_cons_succ, i64_w, i32_w]
          rfl
        refine pure_ (i := 8) (N := some 45) (v := ?_) (a' := ?_) #[true, true, true, false, false, false, true, true, true, false, false, false, false, false, false, false, false, false, false, false, false, false, false, false, false, false] rfl rfl (any_of HT_.out (by kernel_rfl)) (fun _ _ _ h => h) (Or.inl ⟨by rfl, ?_⟩) ?_ ?_
        rotate_left
        · intro w'
          go_simp
          with_reducible rfl
        rotate_left
        · simp only [Act.put, List.setIfInBounds_toArray, List.set_cons_zero, List.set_cons_succ, i64_w, i32_w]
          rfl
        refine take_ (i := 3) (N := some 40) (v := ?_) (a' := ?_) #[true, true, true, true, false, false, true, true, true, false, false, false, false, false, false, false, false, false, false, false, false, false, false, false, false, false] rfl rfl (take_ofW HT_.out HW_.out (by kernel_rfl)) (fun _ _ _ h => h) (Or.inl ⟨by rfl, ?_⟩) hHeld ?_ ?_
        rotate_left
        · rintro w' ⟨s0, s1, s2, s3, s4, s5⟩
          go_simp
          with_reducible rfl
        rotate_left
        · simp only [Act.put, List.setIfInBounds_toArray, List.set_cons_zero, List.set_cons_succ, i64_w, i32_w]
          rfl
        refine take_ (i := 9) (N := some 46) (v := ?_) (a' := ?_) #[true, true, true, true, false, false, true, true, true, true, false, false, false, false, false, false, false, false, false, false, false, false, false, false, false, false] rfl rfl (take_ofW HT_.out HW_.out (by kernel_rfl)) (fun _ _ _ h => h) (Or.inl ⟨by rfl, ?_⟩) hHeld ?_ ?_
        rotate_left
        · rintro w' ⟨s0, s1, s2, s3, s4, s5⟩
          go_simp
          with_reducible rfl
        rotate_left
        · simp only [Act.put, List.setIfInBounds_toArray, List.set_cons_zero, List.set_cons_succ, i64_w, i32_w]
          rfl
        refine pure_ (i := 4) (N := some 41) (v := ?_) (a' := ?_) #[true, true, true, true, true, false, true, true, true, true, false, false, false, false, false, false, false, false, false, false, false, false, false, false, false, false] rfl rfl (any_of HT_.out (by kernel_rfl)) (fun _ _ _ h => h) (Or.inl ⟨by rfl, ?_⟩) ?_ ?_
        rotate_left
        · intro w'
          go_simp
          with_reducible rfl
        rotate_left
        · simp only [Act.put, List.setIfInBounds_toArray, List.set_cons_zero, List.set_cons_succ, i64_w, i32_w]
          rfl
        refine pure_ (i := 5) (N := some 42) (v := ?_) (a' := ?_) #[true, true, true, true, true, true, true, true, true, true, false, false, false, false, false, false, false, false, false, false, false, false, false, false, false, false] rfl rfl (any_of HT_.out (by kernel_rfl)) (fun _ _ _ h => h) (Or.inl ⟨by rfl, ?_⟩) ?_ ?_
        rotate_left
        · intro w'
          go_simp
          with_reducible rfl
        rotate_left
        · simp only [Act.put, List.setIfInBounds_toArray, List.set_cons_zero, List.set_cons_succ, i64_w, i32_w]
          rfl
        refine pure_ (i := 10) (N := some 47) (v := ?_) (a' := ?_) #[true, true, true, true, true, true, true, true, true, true, true, false, false, false, false, false, false, false, false, false, false, false, false, false, false, false] rfl rfl (any_of HT_.out (by kernel_rfl)) (fun _ _ _ h => h) (Or.inl ⟨by rfl, ?_⟩) ?_ ?_
        rotate_left
        · intro w'
          go_simp
          with_reducible rfl
        rotate_left
        · simp only [Act.put, List.setIfInBounds_toArray, List.set_cons_zero, List.set_cons_succ, i64_w, i32_w]
          rfl
        refine pure_ (i := 11) (N := some 48) (v := ?_) (a' := ?_) #[true, true, true, true, true, true, true, true, true, true, true, true, false, false, false, false, false, false, false, false, false, false, false, false, false, false] rfl rfl (any_of HT_.out (by kernel_rfl)) (fun _ _ _ h => h) (Or.inl ⟨by rfl, ?_⟩) ?_ ?_
        rotate_left
        · intro w'
          go_simp
          with_reducible rfl
        rotate_left
        · simp only [Act.put, List.setIfInBounds_toArray, List.set_cons_zero, List.set_cons_succ, i64_w, i32_w]
          rfl
        refine pure_ (i := 12) (N := some 49) (v := ?_) (a' := ?_) #[true, true, true, true, true, true, true, true, true, true, true, true, true, false, false, false, false, false, false, false, false, false, false, false, false, false] rfl rfl (any_of HT_.out (by kernel_rfl)) (fun _ _ _ h => h) (Or.inl ⟨by rfl, ?_⟩) ?_ ?_
        rotate_left
        · intro w'
          go_simp
          with_reducible rfl
        rotate_left
        · simp only [Act.put, List.setIfInBounds_toArray, List.set_cons_zero, List.set_cons_succ, i64_w, i32_w]
          rfl
        refine pure_ (i := 13) (N := some 50) (v := ?_) (a' := ?_) #[true, true, true, true, true, true, true, true, true, true, true, true, true, true, false, false, false, false, false, false, false, false, false, false, false, false] rfl rfl (any_of HT_.out (by kernel_rfl)) (fun _ _ _ h => h) (Or.inl ⟨by rfl, ?_⟩) ?_ ?_
        rotate_left
        · intro w'
          go_simp
          with_reducible rfl
        rotate_left
        · simp only [Act.put, List.setIfInBounds_toArray, List.set_cons_zero, List.set_cons_succ, i64_w, i32_w]
          rfl
        refine pure_ (i := 14) (N := some 51) (v := ?_) (a' := ?_) #[true, true, true, true, true, true, true, true, true, true, true, true, true, true, true, false, false, false, false, false, false, false, false, false, false, false] rfl rfl (any_of HT_.out (by kernel_rfl)) (fun _ _ _ h => h) (Or.inl ⟨by rfl, ?_⟩) ?_ ?_
        rotate_left
        · intro w'
          go_simp
          with_reducible rfl
        rotate_left
        · simp only [Act.put, List.setIfInBounds_toArray, List.set_cons_zero, List.set_cons_succ, i64_w, i32_w]
          rfl
        refine pure_ (i := 20) (N := some 57) (v := ?_) (a' := ?_) #[true, true, true, true, true, true, true, true, true, true, true, true, true, true, true, false, false, false, false, false, true, false, false, false, false, false] rfl rfl (any_of HT_.out (by kernel_rfl)) (fun _ _ _ h => h) (Or.inl ⟨by rfl, ?_⟩) ?_ ?_
        rotate_left
        · intro w'
          go_simp
          with_reducible rfl
        rotate_left
        · simp only [Act.put, List.setIfInBounds_toArray, List.set_cons_zero, List.set_cons_succ, i64_w, i32_w]
          rfl
        refine pure_ (i := 21) (N := some 58) (v := ?_) (a' := ?_) #[true, true, true, true, true, true, true, true, true, true, true, true, true, true, true, false, false, false, false, false, true, true, false, false, false, false] rfl rfl (any_of HT_.out (by kernel_rfl)) (fun _ _ _ h => h) (Or.inl ⟨by rfl, ?_⟩) ?_ ?_
        rotate_left
        · intro w'
          go_simp
          with_reducible rfl
        rotate_left
        · simp only [Act.put, List.setIfInBounds_toArray, List.set_cons_zero, List.set_cons_succ, i64_w, i32_w]
          rfl
        refine pure_ (i := 22) (N := some 59) (v := ?_) (a' := ?_) #[true, true, true, true, true, true, true, true, true, true, true, true, true, true, true, false, false, false, false, false, true, true, true, false, false, false] rfl rfl (any_of HT_.out (by kernel_rfl)) (fun _ _ _ h => h) (Or.inl ⟨by rfl, ?_⟩) ?_ ?_
        rotate_left
        · intro w'
          go_simp
          with_reducible rfl
        rotate_left
        · simp only [Act.put, List.setIfInBounds_toArray, List.set_cons_zero, List.set_cons_succ, i64_w, i32_w]
          rfl
        refine take_ (i := 15) (N := some 52) (v := ?_) (a' := ?_) #[true, true, true, true, true, true, true, true, true, true, true, true, true, true, true, true, false, false, false, false, true, true, true, false, false, false] rfl rfl (take_ofW HT_.out HW_.out (by kernel_rfl)) (fun _ _ _ h => h) (Or.inl ⟨by rfl, ?_⟩) hHeld ?_ ?_
        rotate_left
        · rintro w' ⟨s0, s1, s2, s3, s4, s5⟩
          go_simp
          with_reducible rfl
        rotate_left
        · simp only [Act.put, List.setIfInBounds_toArray, List.set_cons_zero, List.set_cons_succ, i64_w, i32_w]
          rfl
        refine take_ (i := 17) (N := some 54) (v := ?_) (a' := ?_) #[true, true, true, true, true, true, true, true, true, true, true, true, true, true, true, true, false, true, false, false, true, true, true, false, false, false] rfl rfl (take_ofW HT_.out HW_.out (by kernel_rfl)) (fun _ _ _ h => h) (Or.inl ⟨by rfl, ?_⟩) hHeld ?_ ?_
        rotate_left
        · rintro w' ⟨s0, s1, s2, s3, s4, s5⟩
          go_simp
          with_reducible rfl
        rotate_left
        · simp only [Act.put, List.setIfInBounds_toArray, List.set_cons_zero, List.set_cons_succ, i64_w, i32_w]
          rfl
        refine take_ (i := 23) (N := some 60) (v := ?_) (a' := ?_) #[true, true, true, true, true, true, true, true, true, true, true, true, true, true, true, true, false, true, false, false, true, true, true, true, false, false] rfl rfl (take_ofW HT_.out HW_.out (by kernel_rfl)) (fun _ _ _ h => h) (Or.inl ⟨by rfl, ?_⟩) hHeld ?_ ?_
        rotate_left
        · rintro w' ⟨s0, s1, s2, s3, s4, s5⟩
          go_simp
          with_reducible rfl
        rotate_left
        · simp only [Act.put, List.setIfInBounds_toArray, List.set_cons_zero, List.set_cons_succ, i64_w, i32_w]
          rfl
        refine one_ (i := 16) (N := some 53) #[true, true, true, true, true, true, true, true, true, true, true, true, true, true, true, true, true, true, false, false, true, true, true, true, false, false] rfl rfl (one_of HT_.out (by kernel_rfl)) (by decide) (fun K hK => ?_)
        refine goes_ Try.func25 (by kernel_rfl) rfl #[.slice (some ⟨gl, 0, none⟩) l.length c0] (by rfl) rfl rfl (by (try simp only [List.map_toArray, List.map_cons, List.map_nil]); first | done | rfl | (simp only [List.length_drop, List.length_take]; rfl)) ?_
        with_reducible refine (monticuleref18_Used.calls 10000 (some ⟨gl, 0, none⟩) c0 l (usedL l) _ HRV.out HLC0.out HUV.out).mono ?_
        rintro e w7 ⟨rfl, hb⟩
        have n0_ := Aside0.mk (blk_below BKg.out hb)
        have n1_ := Aside0.mk (blk_below BKA.out hb)
        have n2_ := Aside0.mk (Kd.R_below HZ.out hb)
        have n3_ := Aside0.mk (Kd.R_below HBY.out hb)
        have n4_ := Aside0.mk (below_step HQ.out hb)
        have n5_ := Aside0.mk (HO.out.below hb)
        have n6_ := Aside0.mk (Kd.C_below HRV.out hb)
        have n7_ := Aside0.mk (Kd.S_below HSL.out hb)
        clear BKg BKA HZ HBY HQ HO HRV HSL hb
        have BKg := n0_
        have BKA := n1_
        have HZ := n2_
        have HBY := n3_
        have HQ := n4_
        have HO := n5_
        have HRV := n6_
        have HSL := n7_
        clear n0_ n1_ n2_ n3_ n4_ n5_ n6_ n7_
        refine ⟨_, rfl, ?_⟩
        refine hK.out _ _ ⟨(blk_cell BKg.out 0).trans rfl, (blk_cell BKg.out 1).trans rfl, (blk_cell BKg.out 2).trans rfl, (blk_cell BKA.out 0).trans rfl, (blk_cell BKA.out 1).trans rfl, (blk_cell BKA.out 2).trans rfl⟩ (fun hHeld => ?_)
        clear hK K
        refine norm_ (a' := ?_) ?_ ?_
        rotate_left
        · show Act.put _ (some 53) _ = _
          simp only [Act.put, List.setIfInBounds_toArray, List.set_cons_zero, List.set_cons_succ, i64_w, i32_w]
          rfl
        refine one_ (i := 18) (N := some 55) #[true, true, true, true, true, true, true, true, true, true, true, true, true, true, true, true, true, true, true, false, true, true, true, true, false, false] rfl rfl (one_of HT_.out (by kernel_rfl)) (by decide) (fun K hK => ?_)
        refine goes_ Try.func61 (by kernel_rfl) rfl #[.agg #[.int .u64 cls, .slice Az zs.length cz, .slice Ab bs.length cb]] (by rfl) rfl rfl (by (try simp only [List.map_toArray, List.map_cons, List.map_nil]); first | done | rfl | (simp only [List.length_drop, List.length_take]; rfl)) ?_
        with_reducible refine (monticuleref18_Size.calls cls Az cz zs Ab cb bs sz _ (Kd.R_reads' HZ.out).2.2 (Kd.R_reads' HZ.out).2.1 (Kd.R_reads' HBY.out).2.2 (Kd.R_reads' HBY.out).2.1 HSZ.out).mono ?_
        rintro e w8 ⟨rfl, hb⟩
        have n0_ := Aside0.mk (blk_below BKg.out hb)
        have n1_ := Aside0.mk (blk_below BKA.out hb)
        have n2_ := Aside0.mk (Kd.R_below HZ.out hb)
        have n3_ := Aside0.mk (Kd.R_below HBY.out hb)
        have n4_ := Aside0.mk (below_step HQ.out hb)
        have n5_ := Aside0.mk (HO.out.below hb)
        have n6_ := Aside0.mk (Kd.C_below HRV.out hb)
        have n7_ := Aside0.mk (Kd.S_below HSL.out hb)
        clear BKg BKA HZ HBY HQ HO HRV HSL hb
        have BKg := n0_
        have BKA := n1_
        have HZ := n2_
        have HBY := n3_
        have HQ := n4_
        have HO := n5_
        have HRV := n6_
        have HSL := n7_
        clear n0_ n1_ n2_ n3_ n4_ n5_ n6_ n7_
        refine ⟨_, rfl, ?_⟩
        refine hK.out _ _ ⟨(blk_cell BKg.out 0).trans rfl, (blk_cell BKg.out 1).trans rfl, (blk_cell BKg.out 2).trans rfl, (blk_cell BKA.out 0).trans rfl, (blk_cell BKA.out 1).trans rfl, (blk_cell BKA.out 2).trans rfl⟩ (fun hHeld => ?_)
        clear hK K
        refine norm_ (a' := ?_) ?_ ?_
        rotate_left
        · show Act.put _ (some 55) _ = _
          simp only [Act.put, List.setIfInBounds_toArray, List.set_cons_zero, List.set_cons_succ, i64_w, i32_w]
          rfl
        refine pure_ (i := 19) (N := some 56) (v := ?_) (a' := ?_) #[true, true, true, true, true, true, true, true, true, true, true, true, true, true, true, true, true, true, true, true, true, true, true, true, false, false] rfl rfl (any_of HT_.out (by kernel_rfl)) (fun _ _ _ h => h) (Or.inl ⟨by rfl, ?_⟩) ?_ ?_
        rotate_left
        · intro w'
          go_simp
          with_reducible rfl
        rotate_left
        · simp only [Act.put, List.setIfInBounds_toArray, List.set_cons_zero, List.set_cons_succ, i64_w, i32_w]
          rfl
        refine pure_ (i := 24) (N := some 61) (v := ?_) (a' := ?_) #[true, true, true, true, true, true, true, true, true, true, true, true, true, true, true, true, true, true, true, true, true, true, true, true, true, false] rfl rfl (any_of HT_.out (by kernel_rfl)) (fun _ _ _ h => h) (Or.inl ⟨by rfl, ?_⟩) ?_ ?_
        rotate_left
        · intro w'
          go_simp
          with_reducible rfl
        rotate_left
        · simp only [Act.put, List.setIfInBounds_toArray, List.set_cons_zero, List.set_cons_succ, i64_w, i32_w]
          rfl
        refine pure_ (i := 25) (N := some 62) (v := ?_) (a' := ?_) #[true, true, true, true, true, true, true, true, true, true, true, true, true, true, true, true, true, true, true, true, true, true, true, true, true, true] rfl rfl (any_of HT_.out (by kernel_rfl)) (fun _ _ _ h => h) (Or.inl ⟨by rfl, ?_⟩) ?_ ?_
        rotate_left
        · intro w'
          go_simp
          with_reducible rfl
        rotate_left
        · simp only [Act.put, List.setIfInBounds_toArray, List.set_cons_zero, List.set_cons_succ, i64_w, i32_w]
          rfl
        refine done_ (done_of HT_.out (by kernel_rfl)) ?_
        go_wp2_with (fail)
        refine start_ (n := 13) (S := fun w' => w'.cell? ⟨g, 0, none⟩ = some (.slice (some ⟨gl, 0, none⟩) l.length c0) ∧ w'.cell? ⟨gA, 0, none⟩ = some (.int .u64 cls) ∧ w'.cell? ⟨gA, 1, none⟩ = some (.slice Az zs.length cz) ∧ w'.cell? ⟨gA, 2, none⟩ = some (.slice Ab bs.length cb)) (ds := [12]) #[false, false, false, false, false, false, false, false, false, false, false, false, false] (by kernel_rfl) rfl rfl ⟨(blk_cell (blk_drew BKg.out) 0).trans rfl, (blk_cell (blk_drew BKA.out) 0).trans rfl, (blk_cell (blk_drew BKA.out) 1).trans rfl, (blk_cell (blk_drew BKA.out) 2).trans rfl⟩ (fun hHeld => ?_); refine with_tabW rmk.tab8 rmk.bits8 (fun HT_ HW_ => ?_)
        have n0_ := Aside0.mk (blk_drew BKg.out)
        have n1_ := Aside0.mk (blk_drew BKA.out)
        have n2_ := Aside0.mk (Kd.R_drew HZ.out)
        have n3_ := Aside0.mk (Kd.R_drew HBY.out)
        have n4_ := Aside0.mk (below_drew HQ.out)
        have n5_ := Aside0.mk (Kd.S_drew HSL.out)
        generalize hw_ : w8.drew = wb8 at n0_ n1_ n2_ n3_ n4_ n5_ hHeld ⊢
        clear hw_ BKg BKA HZ HBY HQ HSL
        have BKg := n0_
        have BKA := n1_
        have HZ := n2_
        have HBY := n3_
        have HQ := n4_
        have HSL := n5_
        clear n0_ n1_ n2_ n3_ n4_ n5_
        obtain ⟨hch, f8, hf8⟩ := S_heads HSL.out
        obtain ⟨raws, hraws⟩ : ∃ raws, raws = headsOf wb8 gl l := ⟨_, rfl⟩
        have HRL := Aside0.mk (show raws.length = l.length by rw [hraws]; exact headsOf_length _ _ _)
        rw [← hraws] at hch hf8
        have HCH := Aside0.mk hch
        have HF8 := Aside0.mk hf8
        clear hch hf8 hraws HSL HRV HO
        have HQ8 := Aside0.mk (Below.refl wb8.heap.size wb8)
        refine pure_ (i := 0) (N := some 63) (v := ?_) (a' := ?_) #[true, false, false, false, false, false, false, false, false, false, false, false, false] rfl rfl (any_of HT_.out (by kernel_rfl)) (fun _ _ _ h => h) (Or.inl ⟨by rfl, ?_⟩) ?_ ?_
        rotate_left
        · intro w'
          go_simp
          with_reducible rfl
        rotate_left
        · simp only [Act.put, List.setIfInBounds_toArray, List.set_cons_zero, List.set_cons_succ, i64_w, i32_w]
          rfl
        refine pure_ (i := 2) (N := some 65) (v := ?_) (a' := ?_) #[true, false, true, false, false, false, false, false, false, false, false, false, false] rfl rfl (any_of HT_.out (by kernel_rfl)) (fun _ _ _ h => h) (Or.inl ⟨by rfl, ?_⟩) ?_ ?_
        rotate_left
        · intro w'
          go_simp
          with_reducible rfl
        rotate_left
        · simp only [Act.put, List.setIfInBounds_toArray, List.set_cons_zero, List.set_cons_succ, i64_w, i32_w]
          rfl
        refine pure_ (i := 3) (N := some 66) (v := ?_) (a' := ?_) #[true, false, true, true, false, false, false, false, false, false, false, false, false] rfl rfl (any_of HT_.out (by kernel_rfl)) (fun _ _ _ h => h) (Or.inl ⟨by rfl, ?_⟩) ?_ ?_
        rotate_left
        · intro w'
          go_simp
          with_reducible rfl
        rotate_left
        · simp only [Act.put, List.setIfInBounds_toArray, List.set_cons_zero, List.set_cons_succ, i64_w, i32_w]
          rfl
        refine pure_ (i := 4) (N := some 67) (v := ?_) (a' := ?_) #[true, false, true, true, true, false, false, false, false, false, false, false, false] rfl rfl (any_of HT_.out (by kernel_rfl)) (fun _ _ _ h => h) (Or.inl ⟨by rfl, ?_⟩) ?_ ?_
        rotate_left
        · intro w'
          go_simp
          with_reducible rfl
        rotate_left
        · simp only [Act.put, List.setIfInBounds_toArray, List.set_cons_zero, List.set_cons_succ, i64_w, i32_w]
          rfl
        refine take_ (i := 5) (N := some 68) (v := ?_) (a' := ?_) #[true, false, true, true, true, true, false, false, false, false, false, false, false] rfl rfl (take_ofW HT_.out HW_.out (by kernel_rfl)) (fun _ _ _ h => h) (Or.inl ⟨by rfl, ?_⟩) hHeld ?_ ?_
        rotate_left
        · rintro w' ⟨s0, s1, s2, s3⟩
          go_simp
          with_reducible rfl
        rotate_left
        · simp only [Act.put, List.setIfInBounds_toArray, List.set_cons_zero, List.set_cons_succ, i64_w, i32_w]
          rfl
        refine take_ (i := 7) (N := some 70) (v := ?_) (a' := ?_) #[true, false, true, true, true, true, false, true, false, false, false, false, false] rfl rfl (take_ofW HT_.out HW_.out (by kernel_rfl)) (fun _ _ _ h => h) (Or.inl ⟨by rfl, ?_⟩) hHeld ?_ ?_
        rotate_left
        · rintro w' ⟨s0, s1, s2, s3⟩
          go_simp
          with_reducible rfl
        rotate_left
        · simp only [Act.put, List.setIfInBounds_toArray, List.set_cons_zero, List.set_cons_succ, i64_w, i32_w]
          rfl
        refine two_ (i := 1) (j := 8) (Ni := some 64) (Nj := some 71) #[true, true, true, true, true, true, false, true, false, false, false, false, false] #[true, false, true, true, true, true, false, true, true, false, false, false, false] rfl rfl rfl rfl (two_of HT_.out (by kernel_rfl)) (by decide) (by decide) (fun K hK => ?_) (fun K hK => ?_)
        · refine Kd.R_lit_step kraw _ 53 ?hg (N := 64) ?hd (xs := ([] : List (Int × Value × Value))) (inner := []) (ok := fun _ => True) (okp := fun _ => True) ?hr ?hp (fun _ hk => hk) trivial (Below.refl _ _) (Nat.le_refl _) (by simp) ?_; (case hd => rfl); (case hg => rfl); (case hr => first | (go_simp; done) | (go_simp; rfl)); (case hp => exact Reps.none _ _)
          intro v64 w9 ho1 hb hg_ hnew_
          obtain ⟨bE, hE1, hE2⟩ := hnew_
          have n0_ := Aside0.mk (Kd.R_lower ho1 (below_size (by repeat (first | (with_reducible first | exact HQ8.out | apply below_alloc | apply pw_below_drewN | apply below_drew1) | exact HQ8.out))))
          have n1_ := Aside0.mk (below_step (by repeat (first | (with_reducible first | exact HQ8.out | apply below_alloc | apply pw_below_drewN | apply below_drew1) | exact HQ8.out)) hb)
          clear  HQ8 ho1 hb hg_
          have HE := n0_
          have HQ8 := n1_
          clear n0_ n1_
          clear hE1 hE2
          refine hK.out _ _ ⟨(blk_cell (blk_below BKg.out HQ8.out) 0).trans rfl, (blk_cell (blk_below BKA.out HQ8.out) 0).trans rfl, (blk_cell (blk_below BKA.out HQ8.out) 1).trans rfl, (blk_cell (blk_below BKA.out HQ8.out) 2).trans rfl⟩ (fun hHeld => ?_)
          clear hK K
          refine norm_ (a' := ?_) ?_ ?_
          rotate_left
          · show Act.put _ (some 64) _ = _
            simp only [Act.put, List.setIfInBounds_toArray, List.set_cons_zero, List.set_cons_succ, i64_w, i32_w]
            rfl
          refine two_ (i := 6) (j := 8) (Ni := some 69) (Nj := some 71) #[true, true, true, true, true, true, true, true, false, false, false, false, false] #[true, true, true, true, true, true, false, true, true, false, false, false, false] rfl rfl rfl rfl (two_of HT_.out (by kernel_rfl)) (by decide) (by decide) (fun K hK => ?_) (fun K hK => ?_)
          · refine Kd.R_append_rows_step kraw (w0 := wb8) wb8.heap.size (by rfl) (.tmp 64) (.tmp 68) 22 53 (.agg #[(.int .u64 0), (.slice none 0 0), (.slice none 0 0)]) 56 rfl Try.underlying22 info53_ rfl (by decide) (by omega) v64 [] raws _ _ _ (fun _ => True) (fun _ => False) rfl rfl ?aO ?aR (fun _ _ h => h) (fun _ h => h.elim) ?aF ?aB ?aS ?aL ?_
            (case aO => exact HE.out)
            (case aR => exact Kd.C_below HCH.out (by repeat (first | (with_reducible first | exact HQ8.out | apply below_alloc | apply pw_below_drewN | apply below_drew1) | exact HQ8.out)))
            (case aF => exact fun _ _ => trivial)
            (case aB => exact (by repeat (first | (with_reducible first | exact HQ8.out | apply below_alloc | apply pw_below_drewN | apply below_drew1) | exact HQ8.out)))
            (case aS => exact below_size (by repeat (first | (with_reducible first | exact HQ8.out | apply below_alloc | apply pw_below_drewN | apply below_drew1) | exact HQ8.out)))
            (case aL => simp only [List.length_nil]; omega)
            intro v69 w9 ho hb hg hat
            rw [List.nil_append] at ho
            have n0_ := Aside0.mk (ho)
            have n1_ := Aside0.mk (hb)
            clear  HQ8 HE ho hb hg hat
            have HR9 := n0_
            have HQ8 := n1_
            clear n0_ n1_
            refine hK.out _ _ ⟨(blk_cell (blk_below BKg.out HQ8.out) 0).trans rfl, (blk_cell (blk_below BKA.out HQ8.out) 0).trans rfl, (blk_cell (blk_below BKA.out HQ8.out) 1).trans rfl, (blk_cell (blk_below BKA.out HQ8.out) 2).trans rfl⟩ (fun hHeld => ?_)
            clear hK K
            refine norm_ (a' := ?_) ?_ ?_
            rotate_left
            · show Act.put _ (some 69) _ = _
              simp only [Act.put, List.setIfInBounds_toArray, List.set_cons_zero, List.set_cons_succ, i64_w, i32_w]
              rfl
            refine one_ (i := 8) (N := some 71) #[true, true, true, true, true, true, true, true, true, false, false, false, false] rfl rfl (one_of HT_.out (by kernel_rfl)) (by decide) (fun K hK => ?_)
            refine Kd.R_lit_step kraw _ 53 ?hg (N := 71) ?hd (xs := ([(cls, Value.slice Az zs.length cz, Value.slice Ab bs.length cb)] : List (Int × Value × Value))) (inner := [.int .u64 cls, .slice Az zs.length cz, .slice Ab bs.length cb]) (ok := fun _ => True) (okp := fun _ => True) ?hr ?hp (fun _ hk => hk) trivial (Below.refl _ _) (Nat.le_refl _) (by simp) ?_; (case hd => rfl); (case hg => rfl); (case hr => first | (go_simp; done) | (go_simp; rfl)); (case hp => exact Reps.snoc (Reps.none _ _) (show kraw.M _ _ _ (cls, Value.slice Az zs.length cz, Value.slice Ab bs.length cb) [.int .u64 cls, .slice Az zs.length cz, .slice Ab bs.length cb] from ⟨rfl, rfl, rfl⟩) rfl)
            intro v71 w9 ho1 hb hg_ hnew_
            obtain ⟨bE, hE1, hE2⟩ := hnew_
            have n0_ := Aside0.mk (Kd.R_below HR9.out hb)
            have n1_ := Aside0.mk (Kd.R_lower ho1 (below_size (by repeat (first | (with_reducible first | exact HQ8.out | apply below_alloc | apply pw_below_drewN | apply below_drew1) | exact HQ8.out))))
            have n2_ := Aside0.mk (below_step (by repeat (first | (with_reducible first | exact HQ8.out | apply below_alloc | apply pw_below_drewN | apply below_drew1) | exact HQ8.out)) hb)
            clear HR9 HQ8 ho1 hb hg_
            have HR9 := n0_
            have HX := n1_
            have HQ8 := n2_
            clear n0_ n1_ n2_
            clear hE1 hE2
            refine hK.out _ _ ⟨(blk_cell (blk_below BKg.out HQ8.out) 0).trans rfl, (blk_cell (blk_below BKA.out HQ8.out) 0).trans rfl, (blk_cell (blk_below BKA.out HQ8.out) 1).trans rfl, (blk_cell (blk_below BKA.out HQ8.out) 2).trans rfl⟩ (fun hHeld => ?_)
            clear hK K
            refine norm_ (a' := ?_) ?_ ?_
            rotate_left
            · show Act.put _ (some 71) _ = _
              simp only [Act.put, List.setIfInBounds_toArray, List.set_cons_zero, List.set_cons_succ, i64_w, i32_w]
              rfl
            refine one_ (i := 9) (N := some 72) #[true, true, true, true, true, true, true, true, true, true, false, false, false] rfl rfl (one_of HT_.out (by kernel_rfl)) (by decide) (fun K hK => ?_)
            obtain ⟨Ax, cx, ex, hlx, hCx⟩ := Kd.R_reads HX.out
            subst ex
            have HCX := Aside0.mk hCx
            clear hlx hCx
            refine Kd.R_append_rows_step kraw (w0 := wb8) wb8.heap.size (by rfl) (.tmp 69) (.tmp 71) 22 53 (.agg #[(.int .u64 0), (.slice none 0 0), (.slice none 0 0)]) 56 rfl Try.underlying22 info53_ rfl (by decide) (by omega) v69 raws [(cls, Value.slice Az zs.length cz, Value.slice Ab bs.length cb)] _ _ _ (fun _ => True) (fun _ => False) rfl rfl ?aO ?aR (fun _ _ h => h) (fun _ h => h.elim) ?aF ?aB ?aS ?aL ?_
            (case aO => exact HR9.out)
            (case aR => exact HCX.out)
            (case aF => exact fun _ _ => trivial)
            (case aB => exact (by repeat (first | (with_reducible first | exact HQ8.out | apply below_alloc | apply pw_below_drewN | apply below_drew1) | exact HQ8.out)))
            (case aS => exact below_size (by repeat (first | (with_reducible first | exact HQ8.out | apply below_alloc | apply pw_below_drewN | apply below_drew1) | exact HQ8.out)))
            (case aL => have := HRL.out; simp only [List.length_cons, List.length_nil]; omega)
            intro v72 w9 ho hb hg hat
            have n0_ := Aside0.mk (ho)
            have n1_ := Aside0.mk (hb)
            clear  HQ8 HR9 HX HCX ho hb hg hat
            have HR72 := n0_
            have HQ8 := n1_
            clear n0_ n1_
            refine hK.out _ _ ⟨(blk_cell (blk_below BKg.out HQ8.out) 0).trans rfl, (blk_cell (blk_below BKA.out HQ8.out) 0).trans rfl, (blk_cell (blk_below BKA.out HQ8.out) 1).trans rfl, (blk_cell (blk_below BKA.out HQ8.out) 2).trans rfl⟩ (fun hHeld => ?_)
            clear hK K
            refine norm_ (a' := ?_) ?_ ?_
            rotate_left
            · show Act.put _ (some 72) _ = _
              simp only [Act.put, List.setIfInBounds_toArray, List.set_cons_zero, List.set_cons_succ, i64_w, i32_w]
              rfl
            refine pure_ (i := 10) (N := some 73) (v := ?_) (a' := ?_) #[true, true, true, true, true, true, true, true, true, true, true, false, false] rfl rfl (any_of HT_.out (by kernel_rfl)) (fun _ _ _ h => h) (Or.inl ⟨by rfl, ?_⟩) ?_ ?_
            rotate_left
            · intro w'
              go_simp
              with_reducible rfl
            rotate_left
            · simp only [Act.put, List.setIfInBounds_toArray, List.set_cons_zero, List.set_cons_succ, i64_w, i32_w]
              rfl
            refine pure_ (i := 11) (N := some 74) (v := ?_) (a' := ?_) #[true, true, true, true, true, true, true, true, true, true, true, true, false] rfl rfl (any_of HT_.out (by kernel_rfl)) (fun _ _ _ h => h) (Or.inl ⟨by rfl, ?_⟩) ?_ ?_
            rotate_left
            · intro w'
              go_simp
              with_reducible rfl
            rotate_left
            · simp only [Act.put, List.setIfInBounds_toArray, List.set_cons_zero, List.set_cons_succ, i64_w, i32_w]
              rfl
            obtain ⟨A72, c72, e72⟩ := Kd.R_slice HR72.out
            obtain ⟨n72, hn72⟩ : ∃ n, n = (raws ++ [(cls, Value.slice Az zs.length cz, Value.slice Ab bs.length cb)]).length := ⟨_, rfl⟩
            rw [← hn72] at e72
            subst e72
            have hsu : w9.cell? ⟨g, 0, none⟩ = some (.slice (some ⟨gl, 0, none⟩) l.length c0) := (blk_cell (blk_below BKg.out HQ8.out) 0).trans rfl
            have hfu := blk_frozen (blk_below BKg.out HQ8.out) 0
            obtain ⟨L2, hL2⟩ : ∃ L2, L2 = l ++ [newO cls slots bs] := ⟨_, rfl⟩
            have HN72 := Aside0.mk (show n72 = L2.length by rw [hn72, hL2, List.length_append, List.length_append, HRL.out]; rfl)
            have HN73 := Aside0.mk (show (n72 : Int) = (l.length : Int) + 1 by rw [HN72.out, hL2, List.length_append]; rfl)
            have HL2 := Aside0.mk hL2
            clear hn72
            have HS72 := Aside0.mk (show Kd.S k53 53 w9 B ok (.slice A72 n72 c72) L2 from by
              rw [hL2]
              refine S_of_heads (x := newO cls slots bs) (okO := fun k => ok k ∧ k < wq.heap.size) (okp := fun k => wq.heap.size ≤ k ∧ k < wb8.heap.size) (v1 := .slice Az zs.length cz) (v2 := .slice Ab bs.length cb) (f := f8) HRL.out (fun j p hp => ?_) ?_ (fun k hk h2 => by have := h2.2; have := hk.1; omega) ?_ (fun k hk => ⟨hk.1, fun e_ => ?_⟩) (fun k hk => ⟨HFR.out k (by have := HBW.out.size; have := hk.1; omega), fun e_ => ?_⟩)
              · obtain ⟨r, hr, hm⟩ := HF8.out j p hp
                exact ⟨r, hr, k53.M_mono (fun k hk => hk.1) (Kd.M_below (k53.M_bound hm) HQ8.out)⟩
              · have g1 := Kd.R_below HZ.out HQ8.out
                have g2 := Kd.R_below HBY.out HQ8.out
                have g1' : (Kd.int .u64).R 36 w9 B (fun k => wq.heap.size ≤ k ∧ k < wb8.heap.size) (.slice Az zs.length cz) zs := Kd.R_lower (Kd.R_mono (Kd.R_old (Kd.R_bound HZ.out) HQ8.out) (fun k hk => ⟨hk.1.2.1, hk.2⟩)) (Nat.le_trans HGB.out HBW.out.size)
                have g2' : (Kd.int .u8).R 5 w9 B (fun k => wq.heap.size ≤ k ∧ k < wb8.heap.size) (.slice Ab bs.length cb) bs := Kd.R_lower (Kd.R_mono (Kd.R_old (Kd.R_bound HBY.out) HQ8.out) (fun k hk => ⟨hk.1.2.1, hk.2⟩)) (Nat.le_trans HGB.out HBW.out.size)
                have hxz : newO cls slots bs = ⟨cls, zs, bs⟩ := by unfold newO; rw [HZS.out]
                rw [hxz]
                exact k53_mkM w9 B _ (⟨cls, zs, bs⟩ : S53) g1' g2'
              · refine Kd.R_lower (Kd.R_mono (Kd.R_bound HR72.out) (fun k hk => ?_)) ?_
                · exact HFR.out k (by have := hk.2.1; have := HQ.out.size; have := HBW.out.size; omega)
                · have := HQ.out.size; have := HBW.out.size; have := HGB.out; omega
              · have := Kd.R_base HR72.out k e_.symm; have := HQ.out.size; have := hk.2; omega
              · have := Kd.R_base HR72.out k e_.symm; omega)
            refine last_ (i := 12) (N := none) #[true, true, true, true, true, true, true, true, true, true, true, true, true] rfl rfl (one_of HT_.out (by kernel_rfl)) (by decide) (fun K hK => ?_)
            refine skip_ (w1 := ?_) (by rfl) rfl ?_ ?_
            rotate_left
            · go_simp
              rfl
            refine hK.out _ _ ?_
            clear hK K
            refine done_ (done_of HT_.out (by kernel_rfl)) ?_
            have m0_ := Aside0.mk (show RefO (w9.setCell ⟨g, 0, none⟩ (.slice A72 n72 c72)) g B ok L2 o wd from ⟨.slice A72 n72 c72, blk_put (cs := #[.slice (some ⟨gl, 0, none⟩) l.length c0, .int .i64 o, .int .i64 wd]) (blk_below BKg.out HQ8.out) 0 _ rfl, HGG.out.1, HGG.out.2, Kd.S_set HS72.out (blk_below BKg.out HQ8.out) (by decide) 0 _⟩)
            have m1_ := Aside0.mk (show Frm ok w (w9.setCell ⟨g, 0, none⟩ (.slice A72 n72 c72)) from (((Frm.of_below HBW.out).trans (Frm.of_below HQ.out)).trans (Frm.of_below HQ8.out)).setCell (p := ⟨g, 0, none⟩) HGG.out.2 _)
            have k9_ : (w9.setCell ⟨g, 0, none⟩ (.slice A72 n72 c72)).cell? ⟨g, 0, none⟩ = some (.slice A72 n72 c72) := (blk_cell (blk_put (cs := #[.slice (some ⟨gl, 0, none⟩) l.length c0, .int .i64 o, .int .i64 wd]) (blk_below BKg.out HQ8.out) 0 _ rfl) 0).trans rfl
            have e1_ : IntKind.i64.wrap ((n72 : Int) - 1) = (l.length : Int) := by rw [HN73.out, i64_w]; unfold wrap64; omega
            have e2_ : wrap64 ((n72 : Int) - 1) = (l.length : Int) := by rw [HN73.out]; unfold wrap64; omega
            have e3_ : IntKind.i64.wrap (2 * (l.length : Int)) = 2 * (l.length : Int) := by rw [i64_w]; unfold wrap64; omega
            have e4_ : wrap64 (2 * (l.length : Int)) = 2 * (l.length : Int) := by unfold wrap64; omega
            have e5_ : IntKind.u64.wrap (2 * (l.length : Int)) = 2 * (l.length : Int) := by rw [u64w_]; omega
            clear hL2 hsu hfu HS72
            generalize hw_ : (w9.setCell ⟨g, 0, none⟩ (.slice A72 n72 c72)) = w10 at m0_ m1_ k9_ ⊢
            clear hw_
            go_wp2
            go_ret2
            unfold makeW makeL
            rw [HE.out, if_pos rfl, if_pos rfl]
            exact ⟨rfl, by rw [← HL2.out]; exact m0_.out, m1_.out⟩
          · refine Kd.R_lit_step kraw _ 53 ?hg (N := 71) ?hd (xs := ([(cls, Value.slice Az zs.length cz, Value.slice Ab bs.length cb)] : List (Int × Value × Value))) (inner := [.int .u64 cls, .slice Az zs.length cz, .slice Ab bs.length cb]) (ok := fun _ => True) (okp := fun _ => True) ?hr ?hp (fun _ hk => hk) trivial (Below.refl _ _) (Nat.le_refl _) (by simp) ?_; (case hd => rfl); (case hg => rfl); (case hr => first | (go_simp; done) | (go_simp; rfl)); (case hp => exact Reps.snoc (Reps.none _ _) (show kraw.M _ _ _ (cls, Value.slice Az zs.length cz, Value.slice Ab bs.length cb) [.int .u64 cls, .slice Az zs.length cz, .slice Ab bs.length cb] from ⟨rfl, rfl, rfl⟩) rfl)
            intro v71 w9 ho1 hb hg_ hnew_
            obtain ⟨bE, hE1, hE2⟩ := hnew_
            have n0_ := Aside0.mk (Kd.R_below HE.out hb)
            have n1_ := Aside0.mk (Kd.R_lower ho1 (below_size (by repeat (first | (with_reducible first | exact HQ8.out | apply below_alloc | apply pw_below_drewN | apply below_drew1) | exact HQ8.out))))
            have n2_ := Aside0.mk (show v64.ownBlock ≠ v71.ownBlock from fun e_ => by rw [hE1] at e_; have := Kd.R_lt HE.out bE e_; omega)
            have n3_ := Aside0.mk (below_step (by repeat (first | (with_reducible first | exact HQ8.out | apply below_alloc | apply pw_below_drewN | apply below_drew1) | exact HQ8.out)) hb)
            clear HE HQ8 ho1 hb hg_
            have HE := n0_
            have HX := n1_
            have HNE := n2_
            have HQ8 := n3_
            clear n0_ n1_ n2_ n3_
            clear hE1 hE2
            refine hK.out _ _ ⟨(blk_cell (blk_below BKg.out HQ8.out) 0).trans rfl, (blk_cell (blk_below BKA.out HQ8.out) 0).trans rfl, (blk_cell (blk_below BKA.out HQ8.out) 1).trans rfl, (blk_cell (blk_below BKA.out HQ8.out) 2).trans rfl⟩ (fun hHeld => ?_)
            clear hK K
            refine norm_ (a' := ?_) ?_ ?_
            rotate_left
            · show Act.put _ (some 71) _ = _
              simp only [Act.put, List.setIfInBounds_toArray, List.set_cons_zero, List.set_cons_succ, i64_w, i32_w]
              rfl
            refine one_ (i := 6) (N := some 69) #[true, true, true, true, true, true, true, true, true, false, false, false, false] rfl rfl (one_of HT_.out (by kernel_rfl)) (by decide) (fun K hK => ?_)
            refine Kd.R_append_rows_step kraw (w0 := wb8) wb8.heap.size (by rfl) (.tmp 64) (.tmp 68) 22 53 (.agg #[(.int .u64 0), (.slice none 0 0), (.slice none 0 0)]) 56 rfl Try.underlying22 info53_ rfl (by decide) (by omega) v64 [] raws _ _ _ (fun _ => True) (fun _ => False) rfl rfl ?aO ?aR (fun _ _ h => h) (fun _ h => h.elim) ?aF ?aB ?aS ?aL ?_
            (case aO => exact HE.out)
            (case aR => exact Kd.C_below HCH.out (by repeat (first | (with_reducible first | exact HQ8.out | apply below_alloc | apply pw_below_drewN | apply below_drew1) | exact HQ8.out)))
            (case aF => exact fun _ _ => trivial)
            (case aB => exact (by repeat (first | (with_reducible first | exact HQ8.out | apply below_alloc | apply pw_below_drewN | apply below_drew1) | exact HQ8.out)))
            (case aS => exact below_size (by repeat (first | (with_reducible first | exact HQ8.out | apply below_alloc | apply pw_below_drewN | apply below_drew1) | exact HQ8.out)))
            (case aL => simp only [List.length_nil]; omega)
            intro v69 w9 ho hb hg hat
            rw [List.nil_append] at ho
            have n0_ := Aside0.mk (Kd.R_grown1 HX.out rfl hg HNE.out)
            have n1_ := Aside0.mk (ho)
            have n2_ := Aside0.mk (hb)
            clear HX HQ8 HE ho hb hg hat
            have HX := n0_
            have HR9 := n1_
            have HQ8 := n2_
            clear n0_ n1_ n2_
            refine hK.out _ _ ⟨(blk_cell (blk_below BKg.out HQ8.out) 0).trans rfl, (blk_cell (blk_below BKA.out HQ8.out) 0).trans rfl, (blk_cell (blk_below BKA.out HQ8.out) 1).trans rfl, (blk_cell (blk_below BKA.out HQ8.out) 2).trans rfl⟩ (fun hHeld => ?_)
            clear hK K
            refine norm_ (a' := ?_) ?_ ?_
            rotate_left
            · show Act.put _ (some 69) _ = _
              simp only [Act.put, List.setIfInBounds_toArray, List.set_cons_zero, List.set_cons_succ, i64_w, i32_w]
              rfl
            refine one_ (i := 9) (N := some 72) #[true, true, true, true, true, true, true, true, true, true, false, false, false] rfl rfl (one_of HT_.out (by kernel_rfl)) (by decide) (fun K hK => ?_)
            obtain ⟨Ax, cx, ex, hlx, hCx⟩ := Kd.R_reads HX.out
            subst ex
            have HCX := Aside0.mk hCx
            clear hlx hCx
            refine Kd.R_append_rows_step kraw (w0 := wb8) wb8.heap.size (by rfl) (.tmp 69) (.tmp 71) 22 53 (.agg #[(.int .u64 0), (.slice none 0 0), (.slice none 0 0)]) 56 rfl Try.underlying22 info53_ rfl (by decide) (by omega) v69 raws [(cls, Value.slice Az zs.length cz, Value.slice Ab bs.length cb)] _ _ _ (fun _ => True) (fun _ => False) rfl rfl ?aO ?aR (fun _ _ h => h) (fun _ h => h.elim) ?aF ?aB ?aS ?aL ?_
            (case aO => exact HR9.out)
            (case aR => exact HCX.out)
            (case aF => exact fun _ _ => trivial)
            (case aB => exact (by repeat (first | (with_reducible first | exact HQ8.out | apply below_alloc | apply pw_below_drewN | apply below_drew1) | exact HQ8.out)))
            (case aS => exact below_size (by repeat (first | (with_reducible first | exact HQ8.out | apply below_alloc | apply pw_below_drewN | apply below_drew1) | exact HQ8.out)))
            (case aL => have := HRL.out; simp only [List.length_cons, List.length_nil]; omega)
            intro v72 w9 ho hb hg hat
            have n0_ := Aside0.mk (ho)
            have n1_ := Aside0.mk (hb)
            clear  HQ8 HR9 HX HCX ho hb hg hat
            have HR72 := n0_
            have HQ8 := n1_
            clear n0_ n1_
            refine hK.out _ _ ⟨(blk_cell (blk_below BKg.out HQ8.out) 0).trans rfl, (blk_cell (blk_below BKA.out HQ8.out) 0).trans rfl, (blk_cell (blk_below BKA.out HQ8.out) 1).trans rfl, (blk_cell (blk_below BKA.out HQ8.out) 2).trans rfl⟩ (fun hHeld => ?_)
            clear hK K
            refine norm_ (a' := ?_) ?_ ?_
            rotate_left
            · show Act.put _ (some 72) _ = _
              simp only [Act.put, List.setIfInBounds_toArray, List.set_cons_zero, List.set_cons_succ, i64_w, i32_w]
              rfl
            refine pure_ (i := 10) (N := some 73) (v := ?_) (a' := ?_) #[true, true, true, true, true, true, true, true, true, true, true, false, false] rfl rfl (any_of HT_.out (by kernel_rfl)) (fun _ _ _ h => h) (Or.inl ⟨by rfl, ?_⟩) ?_ ?_
            rotate_left
            · intro w'
              go_simp
              with_reducible rfl
            rotate_left
            · simp only [Act.put, List.setIfInBounds_toArray, List.set_cons_zero, List.set_cons_succ, i64_w, i32_w]
              rfl
            refine pure_ (i := 11) (N := some 74) (v := ?_) (a' := ?_) #[true, true, true, true, true, true, true, true, true, true, true, true, false] rfl rfl (any_of HT_.out (by kernel_rfl)) (fun _ _ _ h => h) (Or.inl ⟨by rfl, ?_⟩) ?_ ?_
            rotate_left
            · intro w'
              go_simp
              with_reducible rfl
            rotate_left
            · simp only [Act.put, List.setIfInBounds_toArray, List.set_cons_zero, List.set_cons_succ, i64_w, i32_w]
              rfl
            obtain ⟨A72, c72, e72⟩ := Kd.R_slice HR72.out
            obtain ⟨n72, hn72⟩ : ∃ n, n = (raws ++ [(cls, Value.slice Az zs.length cz, Value.slice Ab bs.length cb)]).length := ⟨_, rfl⟩
            rw [← hn72] at e72
            subst e72
            have hsu : w9.cell? ⟨g, 0, none⟩ = some (.slice (some ⟨gl, 0, none⟩) l.length c0) := (blk_cell (blk_below BKg.out HQ8.out) 0).trans rfl
            have hfu := blk_frozen (blk_below BKg.out HQ8.out) 0
            obtain ⟨L2, hL2⟩ : ∃ L2, L2 = l ++ [newO cls slots bs] := ⟨_, rfl⟩
            have HN72 := Aside0.mk (show n72 = L2.length by rw [hn72, hL2, List.length_append, List.length_append, HRL.out]; rfl)
            have HN73 := Aside0.mk (show (n72 : Int) = (l.length : Int) + 1 by rw [HN72.out, hL2, List.length_append]; rfl)
            have HL2 := Aside0.mk hL2
            clear hn72
            have HS72 := Aside0.mk (show Kd.S k53 53 w9 B ok (.slice A72 n72 c72) L2 from by
              rw [hL2]
              refine S_of_heads (x := newO cls slots bs) (okO := fun k => ok k ∧ k < wq.heap.size) (okp := fun k => wq.heap.size ≤ k ∧ k < wb8.heap.size) (v1 := .slice Az zs.length cz) (v2 := .slice Ab bs.length cb) (f := f8) HRL.out (fun j p hp => ?_) ?_ (fun k hk h2 => by have := h2.2; have := hk.1; omega) ?_ (fun k hk => ⟨hk.1, fun e_ => ?_⟩) (fun k hk => ⟨HFR.out k (by have := HBW.out.size; have := hk.1; omega), fun e_ => ?_⟩)
              · obtain ⟨r, hr, hm⟩ := HF8.out j p hp
                exact ⟨r, hr, k53.M_mono (fun k hk => hk.1) (Kd.M_below (k53.M_bound hm) HQ8.out)⟩
              · have g1 := Kd.R_below HZ.out HQ8.out
                have g2 := Kd.R_below HBY.out HQ8.out
                have g1' : (Kd.int .u64).R 36 w9 B (fun k => wq.heap.size ≤ k ∧ k < wb8.heap.size) (.slice Az zs.length cz) zs := Kd.R_lower (Kd.R_mono (Kd.R_old (Kd.R_bound HZ.out) HQ8.out) (fun k hk => ⟨hk.1.2.1, hk.2⟩)) (Nat.le_trans HGB.out HBW.out.size)
                have g2' : (Kd.int .u8).R 5 w9 B (fun k => wq.heap.size ≤ k ∧ k < wb8.heap.size) (.slice Ab bs.length cb) bs := Kd.R_lower (Kd.R_mono (Kd.R_old (Kd.R_bound HBY.out) HQ8.out) (fun k hk => ⟨hk.1.2.1, hk.2⟩)) (Nat.le_trans HGB.out HBW.out.size)
                have hxz : newO cls slots bs = ⟨cls, zs, bs⟩ := by unfold newO; rw [HZS.out]
                rw [hxz]
                exact k53_mkM w9 B _ (⟨cls, zs, bs⟩ : S53) g1' g2'
              · refine Kd.R_lower (Kd.R_mono (Kd.R_bound HR72.out) (fun k hk => ?_)) ?_
                · exact HFR.out k (by have := hk.2.1; have := HQ.out.size; have := HBW.out.size; omega)
                · have := HQ.out.size; have := HBW.out.size; have := HGB.out; omega
              · have := Kd.R_base HR72.out k e_.symm; have := HQ.out.size; have := hk.2; omega
              · have := Kd.R_base HR72.out k e_.symm; omega)
            refine last_ (i := 12) (N := none) #[true, true, true, true, true, true, true, true, true, true, true, true, true] rfl rfl (one_of HT_.out (by kernel_rfl)) (by decide) (fun K hK => ?_)
            refine skip_ (w1 := ?_) (by rfl) rfl ?_ ?_
            rotate_left
            · go_simp
              rfl
            refine hK.out _ _ ?_
            clear hK K
            refine done_ (done_of HT_.out (by kernel_rfl)) ?_
            have m0_ := Aside0.mk (show RefO (w9.setCell ⟨g, 0, none⟩ (.slice A72 n72 c72)) g B ok L2 o wd from ⟨.slice A72 n72 c72, blk_put (cs := #[.slice (some ⟨gl, 0, none⟩) l.length c0, .int .i64 o, .int .i64 wd]) (blk_below BKg.out HQ8.out) 0 _ rfl, HGG.out.1, HGG.out.2, Kd.S_set HS72.out (blk_below BKg.out HQ8.out) (by decide) 0 _⟩)
            have m1_ := Aside0.mk (show Frm ok w (w9.setCell ⟨g, 0, none⟩ (.slice A72 n72 c72)) from (((Frm.of_below HBW.out).trans (Frm.of_below HQ.out)).trans (Frm.of_below HQ8.out)).setCell (p := ⟨g, 0, none⟩) HGG.out.2 _)
            have k9_ : (w9.setCell ⟨g, 0, none⟩ (.slice A72 n72 c72)).cell? ⟨g, 0, none⟩ = some (.slice A72 n72 c72) := (blk_cell (blk_put (cs := #[.slice (some ⟨gl, 0, none⟩) l.length c0, .int .i64 o, .int .i64 wd]) (blk_below BKg.out HQ8.out) 0 _ rfl) 0).trans rfl
            have e1_ : IntKind.i64.wrap ((n72 : Int) - 1) = (l.length : Int) := by rw [HN73.out, i64_w]; unfold wrap64; omega
            have e2_ : wrap64 ((n72 : Int) - 1) = (l.length : Int) := by rw [HN73.out]; unfold wrap64; omega
            have e3_ : IntKind.i64.wrap (2 * (l.length : Int)) = 2 * (l.length : Int) := by rw [i64_w]; unfold wrap64; omega
            have e4_ : wrap64 (2 * (l.length : Int)) = 2 * (l.length : Int) := by unfold wrap64; omega
            have e5_ : IntKind.u64.wrap (2 * (l.length : Int)) = 2 * (l.length : Int) := by rw [u64w_]; omega
            clear hL2 hsu hfu HS72
            generalize hw_ : (w9.setCell ⟨g, 0, none⟩ (.slice A72 n72 c72)) = w10 at m0_ m1_ k9_ ⊢
            clear hw_
            go_wp2
            go_ret2
            unfold makeW makeL
            rw [HE.out, if_pos rfl, if_pos rfl]
            exact ⟨rfl, by rw [← HL2.out]; exact m0_.out, m1_.out⟩
        · refine Kd.R_lit_step kraw _ 53 ?hg (N := 71) ?hd (xs := ([(cls, Value.slice Az zs.length cz, Value.slice Ab bs.length cb)] : List (Int × Value × Value))) (inner := [.int .u64 cls, .slice Az zs.length cz, .slice Ab bs.length cb]) (ok := fun _ => True) (okp := fun _ => True) ?hr ?hp (fun _ hk => hk) trivial (Below.refl _ _) (Nat.le_refl _) (by simp) ?_; (case hd => rfl); (case hg => rfl); (case hr => first | (go_simp; done) | (go_simp; rfl)); (case hp => exact Reps.snoc (Reps.none _ _) (show kraw.M _ _ _ (cls, Value.slice Az zs.length cz, Value.slice Ab bs.length cb) [.int .u64 cls, .slice Az zs.length cz, .slice Ab bs.length cb] from ⟨rfl, rfl, rfl⟩) rfl)
          intro v71 w9 ho1 hb hg_ hnew_
          obtain ⟨bE, hE1, hE2⟩ := hnew_
          have n0_ := Aside0.mk (Kd.R_lower ho1 (below_size (by repeat (first | (with_reducible first | exact HQ8.out | apply below_alloc | apply pw_below_drewN | apply below_drew1) | exact HQ8.out))))
          have n1_ := Aside0.mk (below_step (by repeat (first | (with_reducible first | exact HQ8.out | apply below_alloc | apply pw_below_drewN | apply below_drew1) | exact HQ8.out)) hb)
          clear  HQ8 ho1 hb hg_
          have HX := n0_
          have HQ8 := n1_
          clear n0_ n1_
          clear hE1 hE2
          refine hK.out _ _ ⟨(blk_cell (blk_below BKg.out HQ8.out) 0).trans rfl, (blk_cell (blk_below BKA.out HQ8.out) 0).trans rfl, (blk_cell (blk_below BKA.out HQ8.out) 1).trans rfl, (blk_cell (blk_below BKA.out HQ8.out) 2).trans rfl⟩ (fun hHeld => ?_)
          clear hK K
          refine norm_ (a' := ?_) ?_ ?_
          rotate_left
          · show Act.put _ (some 71) _ = _
            simp only [Act.put, List.setIfInBounds_toArray, List.set_cons_zero, List.set_cons_succ, i64_w, i32_w]
            rfl
          refine one_ (i := 1) (N := some 64) #[true, true, true, true, true, true, false, true, true, false, false, false, false] rfl rfl (one_of HT_.out (by kernel_rfl)) (by decide) (fun K hK => ?_)
          refine Kd.R_lit_step kraw _ 53 ?hg (N := 64) ?hd (xs := ([] : List (Int × Value × Value))) (inner := []) (ok := fun _ => True) (okp := fun _ => True) ?hr ?hp (fun _ hk => hk) trivial (Below.refl _ _) (Nat.le_refl _) (by simp) ?_; (case hd => rfl); (case hg => rfl); (case hr => first | (go_simp; done) | (go_simp; rfl)); (case hp => exact Reps.none _ _)
          intro v64 w9 ho1 hb hg_ hnew_
          obtain ⟨bE, hE1, hE2⟩ := hnew_
          have n0_ := Aside0.mk (Kd.R_below HX.out hb)
          have n1_ := Aside0.mk (Kd.R_lower ho1 (below_size (by repeat (first | (with_reducible first | exact HQ8.out | apply below_alloc | apply pw_below_drewN | apply below_drew1) | exact HQ8.out))))
          have n2_ := Aside0.mk (show v64.ownBlock ≠ v71.ownBlock from fun e_ => by rw [hE1] at e_; have := Kd.R_lt HX.out bE e_.symm; omega)
          have n3_ := Aside0.mk (below_step (by repeat (first | (with_reducible first | exact HQ8.out | apply below_alloc | apply pw_below_drewN | apply below_drew1) | exact HQ8.out)) hb)
          clear HX HQ8 ho1 hb hg_
          have HX := n0_
          have HE := n1_
          have HNE := n2_
          have HQ8 := n3_
          clear n0_ n1_ n2_ n3_
          clear hE1 hE2
          refine hK.out _ _ ⟨(blk_cell (blk_below BKg.out HQ8.out) 0).trans rfl, (blk_cell (blk_below BKA.out HQ8.out) 0).trans rfl, (blk_cell (blk_below BKA.out HQ8.out) 1).trans rfl, (blk_cell (blk_below BKA.out HQ8.out) 2).trans rfl⟩ (fun hHeld => ?_)
          clear hK K
          refine norm_ (a' := ?_) ?_ ?_
          rotate_left
          · show Act.put _ (some 64) _ = _
            simp only [Act.put, List.setIfInBounds_toArray, List.set_cons_zero, List.set_cons_succ, i64_w, i32_w]
            rfl
          refine one_ (i := 6) (N := some 69) #[true, true, true, true, true, true, true, true, true, false, false, false, false] rfl rfl (one_of HT_.out (by kernel_rfl)) (by decide) (fun K hK => ?_)
          refine Kd.R_append_rows_step kraw (w0 := wb8) wb8.heap.size (by rfl) (.tmp 64) (.tmp 68) 22 53 (.agg #[(.int .u64 0), (.slice none 0 0), (.slice none 0 0)]) 56 rfl Try.underlying22 info53_ rfl (by decide) (by omega) v64 [] raws _ _ _ (fun _ => True) (fun _ => False) rfl rfl ?aO ?aR (fun _ _ h => h) (fun _ h => h.elim) ?aF ?aB ?aS ?aL ?_
          (case aO => exact HE.out)
          (case aR => exact Kd.C_below HCH.out (by repeat (first | (with_reducible first | exact HQ8.out | apply below_alloc | apply pw_below_drewN | apply below_drew1) | exact HQ8.out)))
          (case aF => exact fun _ _ => trivial)
          (case aB => exact (by repeat (first | (with_reducible first | exact HQ8.out | apply below_alloc | apply pw_below_drewN | apply below_drew1) | exact HQ8.out)))
          (case aS => exact below_size (by repeat (first | (with_reducible first | exact HQ8.out | apply below_alloc | apply pw_below_drewN | apply below_drew1) | exact HQ8.out)))
          (case aL => simp only [List.length_nil]; omega)
          intro v69 w9 ho hb hg hat
          rw [List.nil_append] at ho
          have n0_ := Aside0.mk (Kd.R_grown1 HX.out rfl hg HNE.out)
          have n1_ := Aside0.mk (ho)
          have n2_ := Aside0.mk (hb)
          clear HX HQ8 HE ho hb hg hat
          have HX := n0_
          have HR9 := n1_
          have HQ8 := n2_
          clear n0_ n1_ n2_
          refine hK.out _ _ ⟨(blk_cell (blk_below BKg.out HQ8.out) 0).trans rfl, (blk_cell (blk_below BKA.out HQ8.out) 0).trans rfl, (blk_cell (blk_below BKA.out HQ8.out) 1).trans rfl, (blk_cell (blk_below BKA.out HQ8.out) 2).trans rfl⟩ (fun hHeld => ?_)
          clear hK K
          refine norm_ (a' := ?_) ?_ ?_
          rotate_left
          · show Act.put _ (some 69) _ = _
            simp only [Act.put, List.setIfInBounds_toArray, List.set_cons_zero, List.set_cons_succ, i64_w, i32_w]
            rfl
          refine one_ (i := 9) (N := some 72) #[true, true, true, true, true, true, true, true, true, true, false, false, false] rfl rfl (one_of HT_.out (by kernel_rfl)) (by decide) (fun K hK => ?_)
          obtain ⟨Ax, cx, ex, hlx, hCx⟩ := Kd.R_reads HX.out
          subst ex
          have HCX := Aside0.mk hCx
          clear hlx hCx
          refine Kd.R_append_rows_step kraw (w0 := wb8) wb8.heap.size (by rfl) (.tmp 69) (.tmp 71) 22 53 (.agg #[(.int .u64 0), (.slice none 0 0), (.slice none 0 0)]) 56 rfl Try.underlying22 info53_ rfl (by decide) (by omega) v69 raws [(cls, Value.slice Az zs.length cz, Value.slice Ab bs.length cb)] _ _ _ (fun _ => True) (fun _ => False) rfl rfl ?aO ?aR (fun _ _ h => h) (fun _ h => h.elim) ?aF ?aB ?aS ?aL ?_
          (case aO => exact HR9.out)
          (case aR => exact HCX.out)
          (case aF => exact fun _ _ => trivial)
          (case aB => exact (by repeat (first | (with_reducible first | exact HQ8.out | apply below_alloc | apply pw_below_drewN | apply below_drew1) | exact HQ8.out)))
          (case aS => exact below_size (by repeat (first | (with_reducible first | exact HQ8.out | apply below_alloc | apply pw_below_drewN | apply below_drew1) | exact HQ8.out)))
          (case aL => have := HRL.out; simp only [List.length_cons, List.length_nil]; omega)
          intro v72 w9 ho hb hg hat
          have n0_ := Aside0.mk (ho)
          have n1_ := Aside0.mk (hb)
          clear  HQ8 HR9 HX HCX ho hb hg hat
          have HR72 := n0_
          have HQ8 := n1_
          clear n0_ n1_
          refine hK.out _ _ ⟨(blk_cell (blk_below BKg.out HQ8.out) 0).trans rfl, (blk_cell (blk_below BKA.out HQ8.out) 0).trans rfl, (blk_cell (blk_below BKA.out HQ8.out) 1).trans rfl, (blk_cell (blk_below BKA.out HQ8.out) 2).trans rfl⟩ (fun hHeld => ?_)
          clear hK K
          refine norm_ (a' := ?_) ?_ ?_
          rotate_left
          · show Act.put _ (some 72) _ = _
            simp only [Act.put, List.setIfInBounds_toArray, List.set_cons_zero, List.set_cons_succ, i64_w, i32_w]
            rfl
          refine pure_ (i := 10) (N := some 73) (v := ?_) (a' := ?_) #[true, true, true, true, true, true, true, true, true, true, true, false, false] rfl rfl (any_of HT_.out (by kernel_rfl)) (fun _ _ _ h => h) (Or.inl ⟨by rfl, ?_⟩) ?_ ?_
          rotate_left
          · intro w'
            go_simp
            with_reducible rfl
          rotate_left
          · simp only [Act.put, List.setIfInBounds_toArray, List.set_cons_zero, List.set_cons_succ, i64_w, i32_w]
            rfl
          refine pure_ (i := 11) (N := some 74) (v := ?_) (a' := ?_) #[true, true, true, true, true, true, true, true, true, true, true, true, false] rfl rfl (any_of HT_.out (by kernel_rfl)) (fun _ _ _ h => h) (Or.inl ⟨by rfl, ?_⟩) ?_ ?_
          rotate_left
          · intro w'
            go_simp
            with_reducible rfl
          rotate_left
          · simp only [Act.put, List.setIfInBounds_toArray, List.set_cons_zero, List.set_cons_succ, i64_w, i32_w]
            rfl
          obtain ⟨A72, c72, e72⟩ := Kd.R_slice HR72.out
          obtain ⟨n72, hn72⟩ : ∃ n, n = (raws ++ [(cls, Value.slice Az zs.length cz, Value.slice Ab bs.length cb)]).length := ⟨_, rfl⟩
          rw [← hn72] at e72
          subst e72
          have hsu : w9.cell? ⟨g, 0, none⟩ = some (.slice (some ⟨gl, 0, none⟩) l.length c0) := (blk_cell (blk_below BKg.out HQ8.out) 0).trans rfl
          have hfu := blk_frozen (blk_below BKg.out HQ8.out) 0
          obtain ⟨L2, hL2⟩ : ∃ L2, L2 = l ++ [newO cls slots bs] := ⟨_, rfl⟩
          have HN72 := Aside0.mk (show n72 = L2.length by rw [hn72, hL2, List.length_append, List.length_append, HRL.out]; rfl)
          have HN73 := Aside0.mk (show (n72 : Int) = (l.length : Int) + 1 by rw [HN72.out, hL2, List.length_append]; rfl)
          have HL2 := Aside0.mk hL2
          clear hn72
          have HS72 := Aside0.mk (show Kd.S k53 53 w9 B ok (.slice A72 n72 c72) L2 from by
            rw [hL2]
            refine S_of_heads (x := newO cls slots bs) (okO := fun k => ok k ∧ k < wq.heap.size) (okp := fun k => wq.heap.size ≤ k ∧ k < wb8.heap.size) (v1 := .slice Az zs.length cz) (v2 := .slice Ab bs.length cb) (f := f8) HRL.out (fun j p hp => ?_) ?_ (fun k hk h2 => by have := h2.2; have := hk.1; omega) ?_ (fun k hk => ⟨hk.1, fun e_ => ?_⟩) (fun k hk => ⟨HFR.out k (by have := HBW.out.size; have := hk.1; omega), fun e_ => ?_⟩)
            · obtain ⟨r, hr, hm⟩ := HF8.out j p hp
              exact ⟨r, hr, k53.M_mono (fun k hk => hk.1) (Kd.M_below (k53.M_bound hm) HQ8.out)⟩
            · have g1 := Kd.R_below HZ.out HQ8.out
              have g2 := Kd.R_below HBY.out HQ8.out
              have g1' : (Kd.int .u64).R 36 w9 B (fun k => wq.heap.size ≤ k ∧ k < wb8.heap.size) (.slice Az zs.length cz) zs := Kd.R_lower (Kd.R_mono (Kd.R_old (Kd.R_bound HZ.out) HQ8.out) (fun k hk => ⟨hk.1.2.1, hk.2⟩)) (Nat.le_trans HGB.out HBW.out.size)
              have g2' : (Kd.int .u8).R 5 w9 B (fun k => wq.heap.size ≤ k ∧ k < wb8.heap.size) (.slice Ab bs.length cb) bs := Kd.R_lower (Kd.R_mono (Kd.R_old (Kd.R_bound HBY.out) HQ8.out) (fun k hk => ⟨hk.1.2.1, hk.2⟩)) (Nat.le_trans HGB.out HBW.out.size)
              have hxz : newO cls slots bs = ⟨cls, zs, bs⟩ := by unfold newO; rw [HZS.out]
              rw [hxz]
              exact k53_mkM w9 B _ (⟨cls, zs, bs⟩ : S53) g1' g2'
            · refine Kd.R_lower (Kd.R_mono (Kd.R_bound HR72.out) (fun k hk => ?_)) ?_
              · exact HFR.out k (by have := hk.2.1; have := HQ.out.size; have := HBW.out.size; omega)
              · have := HQ.out.size; have := HBW.out.size; have := HGB.out; omega
            · have := Kd.R_base HR72.out k e_.symm; have := HQ.out.size; have := hk.2; omega
            · have := Kd.R_base HR72.out k e_.symm; omega)
          refine last_ (i := 12) (N := none) #[true, true, true, true, true, true, true, true, true, true, true, true, true] rfl rfl (one_of HT_.out (by kernel_rfl)) (by decide) (fun K hK => ?_)
          refine skip_ (w1 := ?_) (by rfl) rfl ?_ ?_
          rotate_left
          · go_simp
            rfl
          refine hK.out _ _ ?_
          clear hK K
          refine done_ (done_of HT_.out (by kernel_rfl)) ?_
          have m0_ := Aside0.mk (show RefO (w9.setCell ⟨g, 0, none⟩ (.slice A72 n72 c72)) g B ok L2 o wd from ⟨.slice A72 n72 c72, blk_put (cs := #[.slice (some ⟨gl, 0, none⟩) l.length c0, .int .i64 o, .int .i64 wd]) (blk_below BKg.out HQ8.out) 0 _ rfl, HGG.out.1, HGG.out.2, Kd.S_set HS72.out (blk_below BKg.out HQ8.out) (by decide) 0 _⟩)
          have m1_ := Aside0.mk (show Frm ok w (w9.setCell ⟨g, 0, none⟩ (.slice A72 n72 c72)) from (((Frm.of_below HBW.out).trans (Frm.of_below HQ.out)).trans (Frm.of_below HQ8.out)).setCell (p := ⟨g, 0, none⟩) HGG.out.2 _)
          have k9_ : (w9.setCell ⟨g, 0, none⟩ (.slice A72 n72 c72)).cell? ⟨g, 0, none⟩ = some (.slice A72 n72 c72) := (blk_cell (blk_put (cs := #[.slice (some ⟨gl, 0, none⟩) l.length c0, .int .i64 o, .int .i64 wd]) (blk_below BKg.out HQ8.out) 0 _ rfl) 0).trans rfl
          have e1_ : IntKind.i64.wrap ((n72 : Int) - 1) = (l.length : Int) := by rw [HN73.out, i64_w]; unfold wrap64; omega
          have e2_ : wrap64 ((n72 : Int) - 1) = (l.length : Int) := by rw [HN73.out]; unfold wrap64; omega
          have e3_ : IntKind.i64.wrap (2 * (l.length : Int)) = 2 * (l.length : Int) := by rw [i64_w]; unfold wrap64; omega
          have e4_ : wrap64 (2 * (l.length : Int)) = 2 * (l.length : Int) := by unfold wrap64; omega
          have e5_ : IntKind.u64.wrap (2 * (l.length : Int)) = 2 * (l.length : Int) := by rw [u64w_]; omega
          clear hL2 hsu hfu HS72
          generalize hw_ : (w9.setCell ⟨g, 0, none⟩ (.slice A72 n72 c72)) = w10 at m0_ m1_ k9_ ⊢
          clear hw_
          go_wp2
          go_ret2
          unfold makeW makeL
          rw [HE.out, if_pos rfl, if_pos rfl]
          exact ⟨rfl, by rw [← HL2.out]; exact m0_.out, m1_.out⟩
set_option maxHeartbeats 16000000 in
set_option maxRecDepth 100000 in
theorem ref_Make (g B : Nat) (ok : Nat → Prop) (cls slots : Int) (A : Option Addr) (c : Nat) (bs : List Int) (l : List S53) (o wd : Int) (w0 w : World) (hfr : ∀ k, w.heap.size ≤ k → ok k) (hO : RefO w g B ok l o wd) (hl : (l.length : Int) ≤ o) (ho : o ≤ 4096) (hs : SmallL l) (ha : W64 cls)
    (hsl : -9223372036854775808 ≤ slots ∧ slots ≤ 9223372036854775807) (hb : bs.length ≤ 100000) (hCb : Kd.C (Kd.int .u8) w0 A bs.length bs) (hcb : bs.length ≤ c) (hB0 : Below w0.heap.size w0 w) :
    Calls Try.prog 42 #[.pointer (some ⟨g, 0, none⟩), .int .u64 cls, .int .i64 slots, .slice A bs.length c] w fun e w' => e = .returned (.tuple #[.int .u64 (makeW l o wd (usedL l) cls slots bs), .int .i64 (makeE l o wd (usedL l) cls slots bs)]) ∧ RefO w' g B ok (makeL l o wd (usedL l) cls slots bs) o wd ∧ Frm ok w w' := by
  have hth := there18 ha l.length hs.1
  cases ht : thereP l.length cls with
  | false =>
    rw [ht] at hth
    have HTH := Aside0.mk (show monticuleref18_There.f cls l.length = some (-1) from hth)
    have e_ : makeE l o wd (usedL l) cls slots bs = 61 := by unfold makeE; rw [if_neg (by rw [ht]; decide)]
    unfold makeW makeL
    rw [e_, if_neg (by decide), if_neg (by decide)]
    have HO := Aside0.mk hO
    have HG : Aside0 (B ≤ w.heap.size) := ⟨by obtain ⟨_, h1, h2, _⟩ := hO; exact Nat.le_trans h2 (Nat.le_of_lt (blk_lt h1))⟩
    obtain ⟨A0, c0, hA0, hA1, hA2⟩ := hO.reads
    have hc0 : w.cell? ⟨g, 0, none⟩ = some (.slice A0 l.length c0) := (blk_cell hA0 0).trans rfl
    clear hA0 hA1 hA2 hth hO hCb hcb hB0 e_ hs
    go_enter Try.func42, Try.ntmps42
    go_wp2_with (first | (go_at_call 41; (with_reducible refine (monticuleref18_There.calls cls (l.length : Int) _ _ HTH.out).mono ?_); rintro e w' ⟨rfl, ⟨nd, rfl⟩⟩))
    go_ret2
    exact ⟨rfl, HO.out.below (Drawn0.below (by repeat (first | exact Drawn0.refl _ | apply Drawn0.step))), Frm.of_below (Drawn0.below (by repeat (first | exact Drawn0.refl _ | apply Drawn0.step)))⟩
  | true =>
    by_cases hss : 0 ≤ slots ∧ slots ≤ 1000 ∧ bs.length ≤ 8000
    · exact ref_Make_in g B ok cls slots A c bs l o wd w0 w hfr hO hl ho hs ha ht hss.1 hss.2.1 hss.2.2 hCb hcb hB0
    · rw [ht] at hth
      have HTH := Aside0.mk (show monticuleref18_There.f cls l.length = some (cls / 2) from hth)
      have z1 : decide (cls / 2 < 0) = false := decide_eq_false (by unfold W64 at ha; omega)
      have e_ : makeE l o wd (usedL l) cls slots bs = 2 := by unfold makeE; rw [if_pos ht, if_neg hss]
      unfold makeW makeL
      rw [e_, if_neg (by decide), if_neg (by decide)]
      have HO := Aside0.mk hO
      have HG : Aside0 (B ≤ w.heap.size) := ⟨by obtain ⟨_, h1, h2, _⟩ := hO; exact Nat.le_trans h2 (Nat.le_of_lt (blk_lt h1))⟩
      obtain ⟨A0, c0, hA0, hA1, hA2⟩ := hO.reads
      have hc0 : w.cell? ⟨g, 0, none⟩ = some (.slice A0 l.length c0) := (blk_cell hA0 0).trans rfl
      clear hA0 hA1 hA2 hth hO hCb hcb hB0 e_ hs
      by_cases h1 : slots < 0
      · have b0 : decide (slots < 0) = true := decide_eq_true h1
        go_enter Try.func42, Try.ntmps42
        go_wp2_with (first | (go_at_call 41; (with_reducible refine (monticuleref18_There.calls cls (l.length : Int) _ _ HTH.out).mono ?_); rintro e w' ⟨rfl, ⟨nd, rfl⟩⟩))
        go_ret2
        exact ⟨rfl, HO.out.below (Drawn0.below (by repeat (first | exact Drawn0.refl _ | apply Drawn0.step))), Frm.of_below (Drawn0.below (by repeat (first | exact Drawn0.refl _ | apply Drawn0.step)))⟩
      · have b0 : decide (slots < 0) = false := decide_eq_false h1
        by_cases h2 : 1000 < slots
        · have b1 : decide (1000 < slots) = true := decide_eq_true h2
          go_enter Try.func42, Try.ntmps42
          go_wp2_with (first | (go_at_call 41; (with_reducible refine (monticuleref18_There.calls cls (l.length : Int) _ _ HTH.out).mono ?_); rintro e w' ⟨rfl, ⟨nd, rfl⟩⟩))
          go_ret2
          exact ⟨rfl, HO.out.below (Drawn0.below (by repeat (first | exact Drawn0.refl _ | apply Drawn0.step))), Frm.of_below (Drawn0.below (by repeat (first | exact Drawn0.refl _ | apply Drawn0.step)))⟩
        · have b1 : decide (1000 < slots) = false := decide_eq_false h2
          have b2 : decide ((8000 : Int) < (bs.length : Int)) = true := decide_eq_true (by omega)
          go_enter Try.func42, Try.ntmps42
          go_wp2_with (first | (go_at_call 41; (with_reducible refine (monticuleref18_There.calls cls (l.length : Int) _ _ HTH.out).mono ?_); rintro e w' ⟨rfl, ⟨nd, rfl⟩⟩))
          go_ret2
          exact ⟨rfl, HO.out.below (Drawn0.below (by repeat (first | exact Drawn0.refl _ | apply Drawn0.step))), Frm.of_below (Drawn0.below (by repeat (first | exact Drawn0.refl _ | apply Drawn0.step)))⟩
end Go.Proofs.Ytiokegmpooildaa.Hp
