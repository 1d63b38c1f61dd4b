/- The reference's heap: Slot, Get, Set, SetClass. -/
import Derived.Test.YtiokegmpooildaaRo
import Derived.Test.YtiokegmpooildaaMd
import Derived.Test.YtiokegmpooildaaFr
import Derived.Test.YtiokegmpooildaaPu
namespace Go.Proofs.Ytiokegmpooildaa.Hp
open Go.RowKit Go.Proofs.YtiokegmpooildaaW.PrintWords Go.Proofs.YtiokegmpooildaaW.PrintLast Go.Proofs.YtiokegmpooildaaW.PrintMore Go.Proofs.Ytiokegmpooildaa.PAll
set_option linter.unusedVariables false
set_option linter.unusedSimpArgs false
/-- The reference's heap, read. -/
def RefC (W : World) (g : Nat) (l : List S53) (o wd : Int) : Prop :=
  ∃ A c, W.heap[g]? = some (.cells #[.slice A l.length c, .int .i64 o, .int .i64 wd] 46 (0, 0)) ∧ l.length ≤ c ∧ Kd.C k53 W A l.length l
theorem RefO.reads {W : World} {g base : Nat} {ok : Nat → Prop} {l : List S53} {o wd : Int} (h : RefO W g base ok l o wd) : RefC W g l o wd := by
  obtain ⟨v, h1, _, _, h2⟩ := h
  obtain ⟨A, c, rfl, hl, hC⟩ := Kd.S_reads h2
  exact ⟨A, c, h1, hl, hC⟩
theorem RefC.below {W W' : World} {g : Nat} {l : List S53} {o wd : Int} (h : RefC W g l o wd) (hb : Below W.heap.size W W') : RefC W' g l o wd := by
  obtain ⟨A, c, h1, h2, h3⟩ := h
  exact ⟨A, c, (hb.block g (blk_lt h1)).trans h1, h2, Kd.C_below h3 hb⟩
theorem RefO.below {W W' : World} {g base : Nat} {ok : Nat → Prop} {l : List S53} {o wd : Int} (h : RefO W g base ok l o wd) (hb : Below W.heap.size W W') : RefO W' g base ok l o wd := by
  obtain ⟨v, h1, h2, h3, h4⟩ := h
  exact ⟨v, (hb.block g (blk_lt h1)).trans h1, h2, h3, Kd.S_below h4 hb⟩
theorem cell_apart3 {W : World} {g b k : Nat} {v : Value} {o wd x : Int} (h : W.heap[g]? = some (.cells #[v, .int .i64 o, .int .i64 wd] 46 (0, 0))) (hv : ∀ y, v ≠ .int .u64 y) (hc : W.cell? ⟨b, k, none⟩ = some (.int .u64 x)) : b ≠ g := by
  rintro rfl
  have hk := blk_cell h k
  rw [hc] at hk
  match k, hk with
  | 0, hk => exact hv x (Option.some.inj hk.symm)
  | 1, hk => exact absurd (Option.some.inj hk) (by simp)
  | 2, hk => exact absurd (Option.some.inj hk) (by simp)
  | n + 3, hk => simp at hk
def rset.T5 : Bool × List (List Nat × List Nat) := (true, [([], []), ([0], [0]), ([1], [1]), ([2], [2]), ([], []), ([], []), ([5], [5]), ([6], [6]), ([7], [7]), ([8], [8]), ([4, 9], [4, 9]), ([3, 10], [3, 10]), ([11], [11]), ([12], [12]), ([], []), ([], []), ([13, 14, 0, 1, 2, 3, 4, 5, 6, 7, 8, 9, 10, 11, 12, 13, 14, 15], [13, 14]), ([16, 15, 10, 0, 1, 2, 3, 4, 5, 6, 7, 8, 9, 10, 11, 12, 13, 14, 15], [15, 16])])
def rset.B5 : List Nat := [0, 1, 3, 7, 0, 0, 32, 96, 224, 480, 1008, 2047, 4095, 8191, 0, 0, 65535, 131071]
theorem rset.tab5 : rtab .any (opsOf Try.f43 5) = rset.T5 := by kernel_rfl
theorem rset.bits5 : waitsOk rset.T5.2 rset.B5 = true := by kernel_rfl
def rsc.T3 : Bool × List (List Nat × List Nat) := (true, [([], []), ([0], [0]), ([1], [1]), ([2], [2]), ([], []), ([], []), ([5], [5]), ([6], [6]), ([7], [7]), ([8], [8]), ([4, 9], [4, 9]), ([], []), ([3, 10, 0, 1, 2, 3, 4, 5, 6, 7, 8, 9, 10, 11], [3, 10]), ([12, 0, 1, 2, 3, 4, 5, 6, 7, 8, 9, 10, 11], [12]), ([13, 11, 10, 0, 1, 2, 3, 4, 5, 6, 7, 8, 9, 10, 11], [11, 13])])
def rsc.B3 : List Nat := [0, 1, 3, 7, 0, 0, 32, 96, 224, 480, 1008, 0, 4095, 8191, 16383]
theorem rsc.tab3 : rtab .any (opsOf Try.f44 3) = rsc.T3 := by kernel_rfl
theorem rsc.bits3 : waitsOk rsc.T3.2 rsc.B3 = true := by kernel_rfl
theorem slotErr_in' {l : List S53} {a i : Int} (ha : W64 a) (e : slotErr l a i = 0) : (0 ≤ a / 2 ∧ a / 2 < (l.length : Int)) ∧ 0 ≤ i ∧ i < ((rd_T53 l (a / 2)).f1.length : Int) ∧ thereP l.length a = true := by
  unfold slotErr at e
  by_cases ht : thereP l.length a = true
  · rw [if_pos ht] at e
    by_cases hi : 0 ≤ i ∧ i < ((objectL l a).f1.length : Int)
    · have h2 := thereP_at ht
      unfold W64 at ha
      have heq : objectL l a = rd_T53 l (a / 2) := by unfold objectL; rw [ht]; rfl
      rw [heq] at hi
      exact ⟨⟨by omega, h2.2⟩, hi.1, hi.2, ht⟩
    · rw [if_neg hi] at e; cases e
  · rw [if_neg ht] at e; cases e
set_option maxHeartbeats 16000000 in
set_option maxRecDepth 100000 in
theorem ref_Slot (g : Nat) (a i : Int) (l : List S53) (o wd : Int) (w : World) (hH : RefC w g l o wd) (hl : l.length ≤ 5000) (ha : W64 a) :
    Calls Try.prog 72 #[.pointer (some ⟨g, 0, none⟩), .int .u64 a, .int .i64 i] w fun e w' => e = .returned (.int .i64 (slotErr l a i)) ∧ Drawn0 w w' := by
  have hth := there18 ha l.length hl
  obtain ⟨A, c, h1, h2, h3⟩ := hH
  have hc0 : w.cell? ⟨g, 0, none⟩ = some (.slice A l.length c) := (blk_cell h1 0).trans rfl
  cases ht : thereP l.length a with
  | false =>
    rw [ht] at hth
    have HTH := Aside0.mk (show monticuleref18_There.f a l.length = some (-1) from hth)
    have e_ : slotErr l a i = 61 := by unfold slotErr; rw [if_neg (by rw [ht]; decide)]
    rw [e_]
    clear hth h1 h2 h3 e_
    go_enter Try.func72, Try.ntmps72
    go_wp2_with (first | (go_at_call 41; (with_reducible refine (monticuleref18_There.calls a (l.length : Int) _ _ HTH.out).mono ?_); rintro e w' ⟨rfl, ⟨nd, rfl⟩⟩))
    go_ret
    exact ⟨rfl, (by repeat (first | exact Drawn0.refl _ | apply Drawn0.step))⟩
  | true =>
    rw [ht] at hth
    have HTH := Aside0.mk (show monticuleref18_There.f a l.length = some (a / 2) from hth)
    have hta := thereP_at ht
    have h0 : 0 ≤ a / 2 := by unfold W64 at ha; omega
    obtain ⟨ad, A1, c1, A2, c2, e0, hx0, hx1, hx2, hl1, hi1, hl2, hi2⟩ := at_T53 h3 (a / 2) h0 hta.2
    cases e0
    have heq : objectL l a = rd_T53 l (a / 2) := by unfold objectL; rw [ht]; rfl
    have e_ : slotErr l a i = if 0 ≤ i ∧ i < ((rd_T53 l (a / 2)).f1.length : Int) then 0 else 2 := by unfold slotErr; rw [if_pos ht, heq]
    rw [e_]
    have z1 : decide (a / 2 < 0) = false := decide_eq_false (by omega)
    have p0 : (0 ≤ a / 2) = True := eq_true h0
    have p1 : (a / 2 < (l.length : Int)) = True := eq_true hta.2
    clear hth h1 h2 h3 e_ heq hl1 hi1 hl2 hi2 hx0 hx2
    by_cases hi : 0 ≤ i ∧ i < ((rd_T53 l (a / 2)).f1.length : Int)
    · rw [if_pos hi]
      have d1 : decide (i < 0) = false := decide_eq_false (by omega)
      have d2 : decide (((rd_T53 l (a / 2)).f1.length : Int) ≤ i) = false := decide_eq_false (by omega)
      go_enter Try.func72, Try.ntmps72
      go_wp2_with (first | (go_at_call 41; (with_reducible refine (monticuleref18_There.calls a (l.length : Int) _ _ HTH.out).mono ?_); rintro e w' ⟨rfl, ⟨nd, rfl⟩⟩))
      go_ret
      exact ⟨rfl, (by repeat (first | exact Drawn0.refl _ | apply Drawn0.step))⟩
    · rw [if_neg hi]
      by_cases hn : i < 0
      · have d1 : decide (i < 0) = true := decide_eq_true hn
        go_enter Try.func72, Try.ntmps72
        go_wp2_with (first | (go_at_call 41; (with_reducible refine (monticuleref18_There.calls a (l.length : Int) _ _ HTH.out).mono ?_); rintro e w' ⟨rfl, ⟨nd, rfl⟩⟩))
        go_ret
        exact ⟨rfl, (by repeat (first | exact Drawn0.refl _ | apply Drawn0.step))⟩
      · have d1 : decide (i < 0) = false := decide_eq_false hn
        have d2 : decide (((rd_T53 l (a / 2)).f1.length : Int) ≤ i) = true := decide_eq_true (by omega)
        go_enter Try.func72, Try.ntmps72
        go_wp2_with (first | (go_at_call 41; (with_reducible refine (monticuleref18_There.calls a (l.length : Int) _ _ HTH.out).mono ?_); rintro e w' ⟨rfl, ⟨nd, rfl⟩⟩))
        go_ret
        exact ⟨rfl, (by repeat (first | exact Drawn0.refl _ | apply Drawn0.step))⟩
set_option maxHeartbeats 16000000 in
set_option maxRecDepth 100000 in
theorem ref_Get (g : Nat) (a i : Int) (l : List S53) (o wd : Int) (w : World) (hH : RefC w g l o wd) (hl : l.length ≤ 5000) (ha : W64 a) :
    Calls Try.prog 46 #[.pointer (some ⟨g, 0, none⟩), .int .u64 a, .int .i64 i] w fun e w' => e = .returned (.tuple #[.int .u64 (if slotErr l a i = 0 then rd (objectL l a).f1 i else 0), .int .i64 (slotErr l a i)]) ∧ Below w.heap.size w w' := by
  have HRC := Aside0.mk hH
  have HL := Aside0.mk hl
  have HA := Aside0.mk ha
  by_cases hz : slotErr l a i = 0
  · have HSE := Aside0.mk hz
    rw [hz, if_pos rfl]
    obtain ⟨hj, hi0, hi1, ht⟩ := slotErr_in' ha hz
    have hth := there18 ha l.length hl
    rw [ht] at hth
    have HTH := Aside0.mk (show monticuleref18_There.f a l.length = some (a / 2) from hth)
    have heq : objectL l a = rd_T53 l (a / 2) := by unfold objectL; rw [ht]; rfl
    rw [heq]
    have HJ := Aside0.mk hj
    have HI := Aside0.mk (show 0 ≤ i ∧ i < ((rd_T53 l (a / 2)).f1.length : Int) from ⟨hi0, hi1⟩)
    clear hth heq hz hH ha hl ht hj hi0 hi1
    go_enter Try.func46, Try.ntmps46
    go_wp2_with (first | (go_at_call 72; (with_reducible refine (ref_Slot g a i l o wd _ (HRC.out.below (Drawn0.below (by repeat (first | exact Drawn0.refl _ | apply Drawn0.step)))) HL.out HA.out).mono ?_); rintro e w' ⟨rfl, ⟨nd, rfl⟩⟩; rw [HSE.out]))
    have n1_ := Aside0.mk (pw_below_drewN (Below.refl w.heap.size w) nd)
    have n2_ := Aside0.mk (HRC.out.below n1_.out)
    generalize hw_ : w.drewN nd = w1 at n1_ n2_ ⊢
    clear hw_ HRC
    obtain ⟨A, c, h1, h2, h3⟩ := n2_.out
    have hc0 : w1.cell? ⟨g, 0, none⟩ = some (.slice A l.length c) := (blk_cell h1 0).trans rfl
    obtain ⟨ad, A1, c1, A2, c2, e0, hx0, hx1, hx2, hl1, hi1, hl2, hi2⟩ := at_T53 h3 (a / 2) HJ.out.1 HJ.out.2
    cases e0
    obtain ⟨bd, e1, hy0⟩ := Kd.at_int hi1 i HI.out.1 HI.out.2
    cases e1
    have p0 : (0 ≤ a / 2) = True := eq_true HJ.out.1
    have p1 : (a / 2 < (l.length : Int)) = True := eq_true HJ.out.2
    have p2 : (0 ≤ i) = True := eq_true HI.out.1
    have p3 : (i < ((rd_T53 l (a / 2)).f1.length : Int)) = True := eq_true HI.out.2
    clear h1 h2 h3 hl1 hi1 hl2 hi2 hx0 hx2 n2_
    repeat (go_quiet (first | (go_at_call 41; refine Calls.quiet_of ((monticuleref18_There.calls _ _ _ _ HTH.out).mono (fun e w' h => ⟨h.1, h.2.out⟩)))); try go_wp2)
    go_ret2
    exact ⟨rfl, by repeat (first | exact n1_.out | apply pw_below_drewN)⟩
  · rw [if_neg hz]
    obtain ⟨n, hn⟩ : ∃ n : Int, n = slotErr l a i := ⟨_, rfl⟩
    rw [← hn] at hz ⊢
    have HSE := Aside0.mk hn.symm
    have z1 : (n == 0) = false := by simpa using hz
    have z2 : (n != 0) = true := by simpa using hz
    clear hz hn hH ha hl
    go_enter Try.func46, Try.ntmps46
    go_wp2_with (first | (go_at_call 72; (with_reducible refine (ref_Slot g a i l o wd _ (HRC.out.below (Drawn0.below (by repeat (first | exact Drawn0.refl _ | apply Drawn0.step)))) HL.out HA.out).mono ?_); rintro e w' ⟨rfl, ⟨nd, rfl⟩⟩; rw [HSE.out]))
    go_ret2
    exact ⟨rfl, (Drawn0.below (by repeat (first | exact Drawn0.refl _ | apply Drawn0.step)))⟩
set_option maxHeartbeats 16000000 in
set_option maxRecDepth 100000 in
theorem ref_Set (g B : Nat) (ok : Nat → Prop) (a i v : Int) (l : List S53) (o wd : Int) (w : World) (hO : RefO w g B ok l o wd) (hl : l.length ≤ 5000) (ha : W64 a) (hv : W64 v) :
    Calls Try.prog 43 #[.pointer (some ⟨g, 0, none⟩), .int .u64 a, .int .i64 i, .int .u64 v] w fun e w' => e = .returned (.int .i64 (setErr l a i v)) ∧ RefO w' g B ok (setL l a i v) o wd ∧ Frm ok w w' := by
  have HRC := Aside0.mk hO.reads
  have HO := Aside0.mk hO
  have HL := Aside0.mk hl
  have HA := Aside0.mk ha
  have HV := Aside0.mk hv
  have HG : Aside0 (B ≤ w.heap.size) := ⟨by obtain ⟨_, h1, h2, _⟩ := hO; exact Nat.le_trans h2 (Nat.le_of_lt (blk_lt h1))⟩
  obtain ⟨A0, c0, hA0, hA1, hA2⟩ := hO.reads
  have hc0 : w.cell? ⟨g, 0, none⟩ = some (.slice A0 l.length c0) := (blk_cell hA0 0).trans rfl
  clear hA0 hA1 hA2
  unfold setL setErr
  have HMY := Aside0.mk (may18 hv l.length hl)
  by_cases hz : slotErr l a i = 0
  · have HSE := Aside0.mk hz
    rw [if_pos hz]
    obtain ⟨hj, hi0, hi1, ht⟩ := slotErr_in' ha hz
    cases hm : mayP l.length v with
    | false =>
      rw [hm] at HMY
      rw [if_neg (by decide), if_neg (by decide)]
      clear hz hm hO hl ha hv hj hi0 hi1 ht
      go_enter Try.func43, Try.ntmps43
      go_wp2_with (first | (go_at_call 72; (with_reducible refine (ref_Slot g a i l o wd _ (HRC.out.below (Drawn0.below (by repeat (first | exact Drawn0.refl _ | apply Drawn0.step)))) HL.out HA.out).mono ?_); rintro e w' ⟨rfl, ⟨nd, rfl⟩⟩; rw [HSE.out]) | (go_at_call 59; (with_reducible refine (monticuleref18_May.calls v (l.length : Int) _ _ HMY.out).mono ?_); rintro e w' ⟨rfl, ⟨nd2, rfl⟩⟩))
      go_ret
      exact ⟨rfl, HO.out.below (Drawn0.below (by repeat (first | exact Drawn0.refl _ | apply Drawn0.step))), Frm.of_below (Drawn0.below (by repeat (first | exact Drawn0.refl _ | apply Drawn0.step)))⟩
    | true =>
      rw [hm] at HMY
      rw [if_pos rfl, if_pos rfl]
      have hth := there18 ha l.length hl
      rw [ht] at hth
      have HTH := Aside0.mk (show monticuleref18_There.f a l.length = some (a / 2) from hth)
      have p0 : (0 ≤ a / 2) = True := eq_true hj.1
      have p1 : (a / 2 < (l.length : Int)) = True := eq_true hj.2
      have p2 : (0 ≤ i) = True := eq_true hi0
      have p3 : (i < ((rd_T53 l (a / 2)).f1.length : Int)) = True := eq_true hi1
      have HIX := Aside0.mk (show 0 ≤ i ∧ i < ((rd_T53 l (a / 2)).f1.length : Int) from ⟨hi0, hi1⟩)
      have HJX := Aside0.mk hj
      clear hth hz hO hl ha hv hm ht hi0 hi1 hj
      go_enter Try.func43, Try.ntmps43
      go_wp2_with (first | (go_at_call 72; (with_reducible refine (ref_Slot g a i l o wd _ (HRC.out.below (Drawn0.below (by repeat (first | exact Drawn0.refl _ | apply Drawn0.step)))) HL.out HA.out).mono ?_); rintro e w' ⟨rfl, ⟨nd, rfl⟩⟩; rw [HSE.out]) | (go_at_call 59; (with_reducible refine (monticuleref18_May.calls v (l.length : Int) _ _ HMY.out).mono ?_); rintro e w' ⟨rfl, ⟨nd2, rfl⟩⟩))
      have n1_ := Aside0.mk (pw_below_drewN (Below.refl w.heap.size w) (nd + nd2))
      have n2_ := Aside0.mk (HO.out.below n1_.out)
      generalize hw_ : w.drewN (nd + nd2) = w1 at n1_ n2_ ⊢
      clear hw_ HRC HO hc0
      obtain ⟨v0, k1, k2, k3, k4⟩ := n2_.out
      obtain ⟨Al, c, ev⟩ := Kd.S_slice k4
      subst ev
      obtain ⟨gl, hAl, hgB⟩ : ∃ gl, Al = some ⟨gl, 0, none⟩ ∧ B ≤ gl := by
        obtain ⟨g0, cap0, e0, h0, _⟩ := Kd.S_form k4 (by have := HJX.out; omega)
        injection e0 with e1 _ _
        exact ⟨g0, e1, h0⟩
      subst hAl
      have HO := n2_
      have HBW := n1_
      have GG := Aside0.mk k2
      have GK := Aside0.mk k3
      have BKg := Aside0.mk k1
      have HS4 := Aside0.mk k4
      have GBl := Aside0.mk hgB
      clear n1_ n2_ k1 k2 k3 k4 hgB
      obtain ⟨bb, cb, s1, _, _, _, _, _, _⟩ := S_slot2 HS4.out (a / 2) HJX.out.1 (by have := HJX.out.2; exact this) i HIX.out.1 HIX.out.2 v
      have HHD := Aside0.mk s1
      clear s1
      refine start_ (n := 18) (S := fun w' => w'.cell? ⟨g, 0, none⟩ = some (.slice (some ⟨gl, 0, none⟩) l.length c) ∧ w'.cell? ⟨gl, (a / 2).toNat * 3 + 1, none⟩ = some (.slice (some ⟨bb, 0, none⟩) (rd_T53 l (a / 2)).f1.length cb)) (ds := [17]) #[false, false, false, false, false, false, false, false, false, false, false, false, false, false, false, false, false, false] (by kernel_rfl) rfl rfl ⟨(blk_cell (blk_drew BKg.out) 0).trans rfl, show w1.drew.cell? _ = _ from HHD.out⟩ (fun hHeld => ?_); refine with_tabW rset.tab5 rset.bits5 (fun HT_ HW_ => ?_)
      have n0_ := Aside0.mk (blk_drew BKg.out)
      have n1_ := Aside0.mk (Kd.S_drew HS4.out)
      have n2_ := Aside0.mk (below_drew HBW.out)
      have n3_ := Aside0.mk (show w1.drew.cell? ⟨gl, (a / 2).toNat * 3 + 1, none⟩ = some (.slice (some ⟨bb, 0, none⟩) (rd_T53 l (a / 2)).f1.length cb) from HHD.out)
      generalize hw_ : w1.drew = w2 at n0_ n1_ n2_ n3_ hHeld ⊢
      clear hw_ BKg HS4 HBW HHD
      have BKg := n0_
      have HS4 := n1_
      have HBW := n2_
      have HHD := n3_
      clear n0_ n1_ n2_ n3_
      refine pure_ (i := 0) (N := some 28) (v := ?_) (a' := ?_) #[true, false, false, false, false, false, false, false, false, false, false, false, false, false, false, false, false, false] rfl rfl (any_of HT_.out (by kernel_rfl)) (fun _ _ _ h => h) (Or.inl ⟨by rfl, ?_⟩) ?_ ?_
      rotate_left
      · intro w'
        go_simp
        with_reducible rfl
      rotate_left
      · simp only [Act.put, List.setIfInBounds_toArray, List.set_cons_zero, List.set_cons_succ, i64_w, i32_w]
        rfl
      refine pure_ (i := 1) (N := some 29) (v := ?_) (a' := ?_) #[true, true, false, false, false, false, false, false, false, false, false, false, false, false, false, false, false, false] rfl rfl (any_of HT_.out (by kernel_rfl)) (fun _ _ _ h => h) (Or.inl ⟨by rfl, ?_⟩) ?_ ?_
      rotate_left
      · intro w'
        go_simp
        with_reducible rfl
      rotate_left
      · simp only [Act.put, List.setIfInBounds_toArray, List.set_cons_zero, List.set_cons_succ, i64_w, i32_w]
        rfl
      refine pure_ (i := 2) (N := some 30) (v := ?_) (a' := ?_) #[true, true, true, false, false, false, false, false, false, false, false, false, false, false, false, false, false, false] rfl rfl (any_of HT_.out (by kernel_rfl)) (fun _ _ _ h => h) (Or.inl ⟨by rfl, ?_⟩) ?_ ?_
      rotate_left
      · intro w'
        go_simp
        with_reducible rfl
      rotate_left
      · simp only [Act.put, List.setIfInBounds_toArray, List.set_cons_zero, List.set_cons_succ, i64_w, i32_w]
        rfl
      refine pure_ (i := 4) (N := some 32) (v := ?_) (a' := ?_) #[true, true, true, false, true, false, false, false, false, false, false, false, false, false, false, false, false, false] rfl rfl (any_of HT_.out (by kernel_rfl)) (fun _ _ _ h => h) (Or.inl ⟨by rfl, ?_⟩) ?_ ?_
      rotate_left
      · intro w'
        go_simp
        with_reducible rfl
      rotate_left
      · simp only [Act.put, List.setIfInBounds_toArray, List.set_cons_zero, List.set_cons_succ, i64_w, i32_w]
        rfl
      refine pure_ (i := 5) (N := some 33) (v := ?_) (a' := ?_) #[true, true, true, false, true, true, false, false, false, false, false, false, false, false, false, false, false, false] rfl rfl (any_of HT_.out (by kernel_rfl)) (fun _ _ _ h => h) (Or.inl ⟨by rfl, ?_⟩) ?_ ?_
      rotate_left
      · intro w'
        go_simp
        with_reducible rfl
      rotate_left
      · simp only [Act.put, List.setIfInBounds_toArray, List.set_cons_zero, List.set_cons_succ, i64_w, i32_w]
        rfl
      refine pure_ (i := 6) (N := some 34) (v := ?_) (a' := ?_) #[true, true, true, false, true, true, true, false, false, false, false, false, false, false, false, false, false, false] rfl rfl (any_of HT_.out (by kernel_rfl)) (fun _ _ _ h => h) (Or.inl ⟨by rfl, ?_⟩) ?_ ?_
      rotate_left
      · intro w'
        go_simp
        with_reducible rfl
      rotate_left
      · simp only [Act.put, List.setIfInBounds_toArray, List.set_cons_zero, List.set_cons_succ, i64_w, i32_w]
        rfl
      refine pure_ (i := 7) (N := some 35) (v := ?_) (a' := ?_) #[true, true, true, false, true, true, true, true, false, false, false, false, false, false, false, false, false, false] rfl rfl (any_of HT_.out (by kernel_rfl)) (fun _ _ _ h => h) (Or.inl ⟨by rfl, ?_⟩) ?_ ?_
      rotate_left
      · intro w'
        go_simp
        with_reducible rfl
      rotate_left
      · simp only [Act.put, List.setIfInBounds_toArray, List.set_cons_zero, List.set_cons_succ, i64_w, i32_w]
        rfl
      refine pure_ (i := 14) (N := some 42) (v := ?_) (a' := ?_) #[true, true, true, false, true, true, true, true, false, false, false, false, false, false, true, false, false, false] rfl rfl (any_of HT_.out (by kernel_rfl)) (fun _ _ _ h => h) (Or.inl ⟨by rfl, ?_⟩) ?_ ?_
      rotate_left
      · intro w'
        go_simp
        with_reducible rfl
      rotate_left
      · simp only [Act.put, List.setIfInBounds_toArray, List.set_cons_zero, List.set_cons_succ, i64_w, i32_w]
        rfl
      refine pure_ (i := 15) (N := some 43) (v := ?_) (a' := ?_) #[true, true, true, false, true, true, true, true, false, false, false, false, false, false, true, true, false, false] rfl rfl (any_of HT_.out (by kernel_rfl)) (fun _ _ _ h => h) (Or.inl ⟨by rfl, ?_⟩) ?_ ?_
      rotate_left
      · intro w'
        go_simp
        with_reducible rfl
      rotate_left
      · simp only [Act.put, List.setIfInBounds_toArray, List.set_cons_zero, List.set_cons_succ, i64_w, i32_w]
        rfl
      refine take_ (i := 3) (N := some 31) (v := ?_) (a' := ?_) #[true, true, true, true, true, true, true, true, false, false, false, false, false, false, true, true, false, false] rfl rfl (take_ofW HT_.out HW_.out (by kernel_rfl)) (fun _ _ _ h => h) (Or.inl ⟨by rfl, ?_⟩) hHeld ?_ ?_
      rotate_left
      · rintro w' ⟨s0, s1⟩
        go_simp
        with_reducible rfl
      rotate_left
      · simp only [Act.put, List.setIfInBounds_toArray, List.set_cons_zero, List.set_cons_succ, i64_w, i32_w]
        rfl
      refine take_ (i := 8) (N := some 36) (v := ?_) (a' := ?_) #[true, true, true, true, true, true, true, true, true, false, false, false, false, false, true, true, false, false] rfl rfl (take_ofW HT_.out HW_.out (by kernel_rfl)) (fun _ _ _ h => h) (Or.inl ⟨by rfl, ?_⟩) hHeld ?_ ?_
      rotate_left
      · rintro w' ⟨s0, s1⟩
        go_simp
        with_reducible rfl
      rotate_left
      · simp only [Act.put, List.setIfInBounds_toArray, List.set_cons_zero, List.set_cons_succ, i64_w, i32_w]
        rfl
      refine pure_ (i := 9) (N := some 37) (v := ?_) (a' := ?_) #[true, true, true, true, true, true, true, true, true, true, false, false, false, false, true, true, false, false] rfl rfl (any_of HT_.out (by kernel_rfl)) (fun _ _ _ h => h) (Or.inl ⟨by rfl, ?_⟩) ?_ ?_
      rotate_left
      · intro w'
        go_simp
        with_reducible rfl
      rotate_left
      · simp only [Act.put, List.setIfInBounds_toArray, List.set_cons_zero, List.set_cons_succ, i64_w, i32_w]
        rfl
      refine one_ (i := 10) (N := some 38) #[true, true, true, true, true, true, true, true, true, true, true, false, false, false, true, true, false, false] rfl rfl (one_of HT_.out (by kernel_rfl)) (by decide) (fun K hK => ?_)
      refine goes_ Try.func41 (by kernel_rfl) rfl #[.int .u64 a, .int .i64 (l.length : Int)] (by rfl) rfl rfl (by (try simp only [List.map_toArray, List.map_cons, List.map_nil]); first | done | rfl | (simp only [List.length_drop, List.length_take]; rfl)) ?_
      with_reducible refine (monticuleref18_There.calls a (l.length : Int) _ _ HTH.out).mono ?_
      rintro e w9 ⟨rfl, ⟨nd3, rfl⟩⟩
      refine ⟨_, rfl, ?_⟩
      refine hK.out _ _ ⟨hHeld.1, hHeld.2⟩ (fun hHeld => ?_)
      clear hK K
      refine norm_ (a' := ?_) ?_ ?_
      rotate_left
      · show Act.put _ (some 38) _ = _
        simp only [Act.put, List.setIfInBounds_toArray, List.set_cons_zero, List.set_cons_succ, i64_w, i32_w]
        rfl
      have n0_ := Aside0.mk (blk_drewN BKg.out nd3)
      have n1_ := Aside0.mk (Kd.S_drewN HS4.out nd3)
      have n2_ := Aside0.mk (pw_below_drewN HBW.out nd3)
      have n3_ := Aside0.mk (show (w2.drewN nd3).cell? ⟨gl, (a / 2).toNat * 3 + 1, none⟩ = some (.slice (some ⟨bb, 0, none⟩) (rd_T53 l (a / 2)).f1.length cb) from HHD.out)
      generalize hw_ : w2.drewN nd3 = w3 at n0_ n1_ n2_ n3_ hHeld ⊢
      clear hw_ BKg HS4 HBW HHD
      have BKg := n0_
      have HS4 := n1_
      have HBW := n2_
      have HHD := n3_
      clear n0_ n1_ n2_ n3_
      refine pure_ (i := 11) (N := some 39) (v := ?_) (a' := ?_) #[true, true, true, true, true, true, true, true, true, true, true, true, false, false, true, true, false, false] rfl rfl (any_of HT_.out (by kernel_rfl)) (fun _ _ _ h => h) (Or.inl ⟨by rfl, ?_⟩) ?_ ?_
      rotate_left
      · intro w'
        go_simp
        with_reducible rfl
      rotate_left
      · simp only [Act.put, List.setIfInBounds_toArray, List.set_cons_zero, List.set_cons_succ, i64_w, i32_w]
        rfl
      refine pure_ (i := 12) (N := some 40) (v := ?_) (a' := ?_) #[true, true, true, true, true, true, true, true, true, true, true, true, true, false, true, true, false, false] rfl rfl (any_of HT_.out (by kernel_rfl)) (fun _ _ _ h => h) (Or.inl ⟨by rfl, ?_⟩) ?_ ?_
      rotate_left
      · intro w'
        go_simp
        with_reducible rfl
      rotate_left
      · simp only [Act.put, List.setIfInBounds_toArray, List.set_cons_zero, List.set_cons_succ, i64_w, i32_w]
        rfl
      refine take_ (i := 13) (N := some 41) (v := ?_) (a' := ?_) #[true, true, true, true, true, true, true, true, true, true, true, true, true, true, true, true, false, false] rfl rfl (take_ofW HT_.out HW_.out (by kernel_rfl)) (fun _ _ _ h => h) (Or.inl ⟨by rfl, ?_⟩) hHeld ?_ ?_
      rotate_left
      · rintro w' ⟨s0, s1⟩
        go_simp
        with_reducible rfl
      rotate_left
      · simp only [Act.put, List.setIfInBounds_toArray, List.set_cons_zero, List.set_cons_succ, i64_w, i32_w]
        rfl
      obtain ⟨b2, cc2, s1, s2, s3, s4, s5, s6, s7⟩ := S_slot2 HS4.out (a / 2) HJX.out.1 (by have := HJX.out.2; exact this) i HIX.out.1 HIX.out.2 v
      have hb2 : b2 = bb := by have h_ := Option.some.inj (HHD.out.symm.trans s1); injection h_ with h_ _ _; injection h_ with h_; injection h_ with h_; exact h_.symm
      subst hb2
      have hsu : w3.cell? ⟨b2, i.toNat, none⟩ = some (.int .u64 (rd (rd_T53 l (a / 2)).f1 i)) := s4
      have hfu := s5
      have hbg := cell_apart3 BKg.out (fun _ => by simp) s4
      refine pure_ (i := 16) (N := some 44) (v := ?_) (a' := ?_) #[true, true, true, true, true, true, true, true, true, true, true, true, true, true, true, true, true, false] rfl rfl (any_of HT_.out (by kernel_rfl)) (fun _ _ _ h => h) (Or.inl ⟨by rfl, ?_⟩) ?_ ?_
      rotate_left
      · intro w'
        go_simp
        with_reducible rfl
      rotate_left
      · simp only [Act.put, List.setIfInBounds_toArray, List.set_cons_zero, List.set_cons_succ, i64_w, i32_w]
        rfl
      refine last_ (i := 17) (N := none) #[true, true, true, true, true, true, true, true, true, true, true, true, true, true, true, true, true, true] rfl rfl (one_of HT_.out (by kernel_rfl)) (by decide) (fun K hK => ?_)
      refine skip_ (w1 := ?_) (by rfl) rfl ?_ ?_
      rotate_left
      · go_simp
        rfl
      refine hK.out _ _ ?_
      clear hK K
      refine done_ (done_of HT_.out (by kernel_rfl)) ?_
      have HN := Aside0.mk (show RefO (w3.setCell ⟨b2, i.toNat, none⟩ (.int .u64 v)) g B ok (putL l a i v) o wd from ⟨.slice (some ⟨gl, 0, none⟩) l.length c, by rw [Below.heap_setCell _ _ _ _ (fun e => hbg e.symm)]; exact BKg.out, GG.out, GK.out, s6⟩)
      have HBN := Aside0.mk (show Frm ok w (w3.setCell ⟨b2, i.toNat, none⟩ (.int .u64 v)) from (Frm.of_below HBW.out).setCell (p := ⟨b2, i.toNat, none⟩) s2 _)
      clear s1 s2 s3 s4 s5 s6 s7 hbg
      go_wp2
      go_ret
      exact ⟨rfl, HN.out, HBN.out⟩
  · rw [if_neg hz]
    obtain ⟨n, hn⟩ : ∃ n : Int, n = slotErr l a i := ⟨_, rfl⟩
    rw [← hn] at hz ⊢
    rw [if_neg hz]
    have HSE := Aside0.mk hn.symm
    have z1 : (n == 0) = false := by simpa using hz
    have z2 : (n != 0) = true := by simpa using hz
    clear hz hn hO hl ha hv
    go_enter Try.func43, Try.ntmps43
    go_wp2_with (first | (go_at_call 72; (with_reducible refine (ref_Slot g a i l o wd _ (HRC.out.below (Drawn0.below (by repeat (first | exact Drawn0.refl _ | apply Drawn0.step)))) HL.out HA.out).mono ?_); rintro e w' ⟨rfl, ⟨nd, rfl⟩⟩; rw [HSE.out]))
    go_ret
    exact ⟨rfl, HO.out.below (Drawn0.below (by repeat (first | exact Drawn0.refl _ | apply Drawn0.step))), Frm.of_below (Drawn0.below (by repeat (first | exact Drawn0.refl _ | apply Drawn0.step)))⟩
set_option maxHeartbeats 16000000 in
set_option maxRecDepth 100000 in
theorem ref_SetClass (g B : Nat) (ok : Nat → Prop) (a cc : Int) (l : List S53) (o wd : Int) (w : World) (hO : RefO w g B ok l o wd) (hl : l.length ≤ 5000) (ha : W64 a) (hv : W64 cc) :
    Calls Try.prog 44 #[.pointer (some ⟨g, 0, none⟩), .int .u64 a, .int .u64 cc] w fun e w' => e = .returned (.int .i64 (setCErr l a cc)) ∧ RefO w' g B ok (setCL l a cc) o wd ∧ Frm ok w w' := by
  have HRC := Aside0.mk hO.reads
  have HO := Aside0.mk hO
  have HL := Aside0.mk hl
  have HA := Aside0.mk ha
  have HV := Aside0.mk hv
  have HG : Aside0 (B ≤ w.heap.size) := ⟨by obtain ⟨_, h1, h2, _⟩ := hO; exact Nat.le_trans h2 (Nat.le_of_lt (blk_lt h1))⟩
  obtain ⟨A0, c0, hA0, hA1, hA2⟩ := hO.reads
  have hc0 : w.cell? ⟨g, 0, none⟩ = some (.slice A0 l.length c0) := (blk_cell hA0 0).trans rfl
  clear hA0 hA1 hA2
  unfold setCL setCErr
  have hta := there18 ha l.length hl
  have htc := there18 hv l.length hl
  cases ht : thereP l.length a with
  | false =>
    rw [ht] at hta
    have HTA := Aside0.mk (show monticuleref18_There.f a l.length = some (-1) from hta)
    rw [if_neg (by simp), if_neg (by decide)]
    clear hta htc hO hl ha hv ht
    go_enter Try.func44, Try.ntmps44
    go_wp2_with (first | (go_at_call 41; (with_reducible refine (monticuleref18_There.calls a (l.length : Int) _ _ HTA.out).mono ?_); rintro e w' ⟨rfl, ⟨nd, rfl⟩⟩))
    go_ret
    exact ⟨rfl, HO.out.below (Drawn0.below (by repeat (first | exact Drawn0.refl _ | apply Drawn0.step))), Frm.of_below (Drawn0.below (by repeat (first | exact Drawn0.refl _ | apply Drawn0.step)))⟩
  | true =>
    rw [ht] at hta
    have HTA := Aside0.mk (show monticuleref18_There.f a l.length = some (a / 2) from hta)
    have hth := thereP_at ht
    have h0 : 0 ≤ a / 2 := by unfold W64 at ha; omega
    have z1 : decide (a / 2 < 0) = false := decide_eq_false (by omega)
    cases hm : thereP l.length cc with
    | false =>
      rw [hm] at htc
      have HTC := Aside0.mk (show monticuleref18_There.f cc l.length = some (-1) from htc)
      rw [if_neg (by simp), if_neg (by decide)]
      clear hta htc hO hl ha hv ht hm
      go_enter Try.func44, Try.ntmps44
      go_wp2_with (first | (go_at_call 41; (with_reducible refine (monticuleref18_There.calls a (l.length : Int) _ _ HTA.out).mono ?_); rintro e w' ⟨rfl, ⟨nd, rfl⟩⟩) | (go_at_call 41; (with_reducible refine (monticuleref18_There.calls cc (l.length : Int) _ _ HTC.out).mono ?_); rintro e w' ⟨rfl, ⟨nd2, rfl⟩⟩))
      go_ret
      exact ⟨rfl, HO.out.below (Drawn0.below (by repeat (first | exact Drawn0.refl _ | apply Drawn0.step))), Frm.of_below (Drawn0.below (by repeat (first | exact Drawn0.refl _ | apply Drawn0.step)))⟩
    | true =>
      rw [hm] at htc
      have HTC := Aside0.mk (show monticuleref18_There.f cc l.length = some (cc / 2) from htc)
      have z2 : decide (cc / 2 < 0) = false := decide_eq_false (by unfold W64 at hv; omega)
      rw [if_pos (by simp), if_pos rfl]
      have p0 : (0 ≤ a / 2) = True := eq_true h0
      have p1 : (a / 2 < (l.length : Int)) = True := eq_true hth.2
      have HJX := Aside0.mk (show 0 ≤ a / 2 ∧ a / 2 < (l.length : Int) from ⟨h0, hth.2⟩)
      clear hta htc hO hl ha hv ht hm hth h0
      go_enter Try.func44, Try.ntmps44
      go_wp2_with (first | (go_at_call 41; (with_reducible refine (monticuleref18_There.calls a (l.length : Int) _ _ HTA.out).mono ?_); rintro e w' ⟨rfl, ⟨nd, rfl⟩⟩) | (go_at_call 41; (with_reducible refine (monticuleref18_There.calls cc (l.length : Int) _ _ HTC.out).mono ?_); rintro e w' ⟨rfl, ⟨nd2, rfl⟩⟩))
      have n1_ := Aside0.mk (pw_below_drewN (Below.refl w.heap.size w) (nd + nd2))
      have n2_ := Aside0.mk (HO.out.below n1_.out)
      generalize hw_ : w.drewN (nd + nd2) = w1 at n1_ n2_ ⊢
      clear hw_ HRC HO hc0
      obtain ⟨v0, k1, k2, k3, k4⟩ := n2_.out
      obtain ⟨Al, c, ev⟩ := Kd.S_slice k4
      subst ev
      obtain ⟨gl, hAl, hgB⟩ : ∃ gl, Al = some ⟨gl, 0, none⟩ ∧ B ≤ gl := by
        obtain ⟨g0, cap0, e0, h0, _⟩ := Kd.S_form k4 (by have := HJX.out; omega)
        injection e0 with e1 _ _
        exact ⟨g0, e1, h0⟩
      subst hAl
      have HO := n2_
      have HBW := n1_
      have GG := Aside0.mk k2
      have GK := Aside0.mk k3
      have BKg := Aside0.mk k1
      have HS4 := Aside0.mk k4
      have GBl := Aside0.mk hgB
      clear n1_ n2_ k1 k2 k3 k4 hgB
      refine start_ (n := 15) (S := fun w' => w'.cell? ⟨g, 0, none⟩ = some (.slice (some ⟨gl, 0, none⟩) l.length c)) (ds := [14]) #[false, false, false, false, false, false, false, false, false, false, false, false, false, false, false] (by kernel_rfl) rfl rfl ((blk_cell (blk_drew BKg.out) 0).trans rfl) (fun hHeld => ?_); refine with_tabW rsc.tab3 rsc.bits3 (fun HT_ HW_ => ?_)
      have n0_ := Aside0.mk (blk_drew BKg.out)
      have n1_ := Aside0.mk (Kd.S_drew HS4.out)
      have n2_ := Aside0.mk (below_drew HBW.out)
      generalize hw_ : w1.drew = w2 at n0_ n1_ n2_ hHeld ⊢
      clear hw_ BKg HS4 HBW
      have BKg := n0_
      have HS4 := n1_
      have HBW := n2_
      clear n0_ n1_ n2_
      refine pure_ (i := 0) (N := some 25) (v := ?_) (a' := ?_) #[true, false, false, false, false, false, false, false, false, false, false, false, false, false, false] rfl rfl (any_of HT_.out (by kernel_rfl)) (fun _ _ _ h => h) (Or.inl ⟨by rfl, ?_⟩) ?_ ?_
      rotate_left
      · intro w'
        go_simp
        with_reducible rfl
      rotate_left
      · simp only [Act.put, List.setIfInBounds_toArray, List.set_cons_zero, List.set_cons_succ, i64_w, i32_w]
        rfl
      refine pure_ (i := 1) (N := some 26) (v := ?_) (a' := ?_) #[true, true, false, false, false, false, false, false, false, false, false, false, false, false, false] rfl rfl (any_of HT_.out (by kernel_rfl)) (fun _ _ _ h => h) (Or.inl ⟨by rfl, ?_⟩) ?_ ?_
      rotate_left
      · intro w'
        go_simp
        with_reducible rfl
      rotate_left
      · simp only [Act.put, List.setIfInBounds_toArray, List.set_cons_zero, List.set_cons_succ, i64_w, i32_w]
        rfl
      refine pure_ (i := 2) (N := some 27) (v := ?_) (a' := ?_) #[true, true, true, false, false, false, false, false, false, false, false, false, false, false, false] rfl rfl (any_of HT_.out (by kernel_rfl)) (fun _ _ _ h => h) (Or.inl ⟨by rfl, ?_⟩) ?_ ?_
      rotate_left
      · intro w'
        go_simp
        with_reducible rfl
      rotate_left
      · simp only [Act.put, List.setIfInBounds_toArray, List.set_cons_zero, List.set_cons_succ, i64_w, i32_w]
        rfl
      refine pure_ (i := 4) (N := some 29) (v := ?_) (a' := ?_) #[true, true, true, false, true, false, false, false, false, false, false, false, false, false, false] rfl rfl (any_of HT_.out (by kernel_rfl)) (fun _ _ _ h => h) (Or.inl ⟨by rfl, ?_⟩) ?_ ?_
      rotate_left
      · intro w'
        go_simp
        with_reducible rfl
      rotate_left
      · simp only [Act.put, List.setIfInBounds_toArray, List.set_cons_zero, List.set_cons_succ, i64_w, i32_w]
        rfl
      refine pure_ (i := 5) (N := some 30) (v := ?_) (a' := ?_) #[true, true, true, false, true, true, false, false, false, false, false, false, false, false, false] rfl rfl (any_of HT_.out (by kernel_rfl)) (fun _ _ _ h => h) (Or.inl ⟨by rfl, ?_⟩) ?_ ?_
      rotate_left
      · intro w'
        go_simp
        with_reducible rfl
      rotate_left
      · simp only [Act.put, List.setIfInBounds_toArray, List.set_cons_zero, List.set_cons_succ, i64_w, i32_w]
        rfl
      refine pure_ (i := 6) (N := some 31) (v := ?_) (a' := ?_) #[true, true, true, false, true, true, true, false, false, false, false, false, false, false, false] rfl rfl (any_of HT_.out (by kernel_rfl)) (fun _ _ _ h => h) (Or.inl ⟨by rfl, ?_⟩) ?_ ?_
      rotate_left
      · intro w'
        go_simp
        with_reducible rfl
      rotate_left
      · simp only [Act.put, List.setIfInBounds_toArray, List.set_cons_zero, List.set_cons_succ, i64_w, i32_w]
        rfl
      refine pure_ (i := 7) (N := some 32) (v := ?_) (a' := ?_) #[true, true, true, false, true, true, true, true, false, false, false, false, false, false, false] rfl rfl (any_of HT_.out (by kernel_rfl)) (fun _ _ _ h => h) (Or.inl ⟨by rfl, ?_⟩) ?_ ?_
      rotate_left
      · intro w'
        go_simp
        with_reducible rfl
      rotate_left
      · simp only [Act.put, List.setIfInBounds_toArray, List.set_cons_zero, List.set_cons_succ, i64_w, i32_w]
        rfl
      refine pure_ (i := 11) (N := some 36) (v := ?_) (a' := ?_) #[true, true, true, false, true, true, true, true, false, false, false, true, false, false, false] rfl rfl (any_of HT_.out (by kernel_rfl)) (fun _ _ _ h => h) (Or.inl ⟨by rfl, ?_⟩) ?_ ?_
      rotate_left
      · intro w'
        go_simp
        with_reducible rfl
      rotate_left
      · simp only [Act.put, List.setIfInBounds_toArray, List.set_cons_zero, List.set_cons_succ, i64_w, i32_w]
        rfl
      refine take_ (i := 3) (N := some 28) (v := ?_) (a' := ?_) #[true, true, true, true, true, true, true, true, false, false, false, true, false, false, false] rfl rfl (take_ofW HT_.out HW_.out (by kernel_rfl)) (fun _ _ _ h => h) (Or.inl ⟨by rfl, ?_⟩) hHeld ?_ ?_
      rotate_left
      · rintro w' s0
        go_simp
        with_reducible rfl
      rotate_left
      · simp only [Act.put, List.setIfInBounds_toArray, List.set_cons_zero, List.set_cons_succ, i64_w, i32_w]
        rfl
      refine take_ (i := 8) (N := some 33) (v := ?_) (a' := ?_) #[true, true, true, true, true, true, true, true, true, false, false, true, false, false, false] rfl rfl (take_ofW HT_.out HW_.out (by kernel_rfl)) (fun _ _ _ h => h) (Or.inl ⟨by rfl, ?_⟩) hHeld ?_ ?_
      rotate_left
      · rintro w' s0
        go_simp
        with_reducible rfl
      rotate_left
      · simp only [Act.put, List.setIfInBounds_toArray, List.set_cons_zero, List.set_cons_succ, i64_w, i32_w]
        rfl
      refine pure_ (i := 9) (N := some 34) (v := ?_) (a' := ?_) #[true, true, true, true, true, true, true, true, true, true, false, true, false, false, false] rfl rfl (any_of HT_.out (by kernel_rfl)) (fun _ _ _ h => h) (Or.inl ⟨by rfl, ?_⟩) ?_ ?_
      rotate_left
      · intro w'
        go_simp
        with_reducible rfl
      rotate_left
      · simp only [Act.put, List.setIfInBounds_toArray, List.set_cons_zero, List.set_cons_succ, i64_w, i32_w]
        rfl
      refine one_ (i := 10) (N := some 35) #[true, true, true, true, true, true, true, true, true, true, true, true, false, false, false] rfl rfl (one_of HT_.out (by kernel_rfl)) (by decide) (fun K hK => ?_)
      refine goes_ Try.func41 (by kernel_rfl) rfl #[.int .u64 a, .int .i64 (l.length : Int)] (by rfl) rfl rfl (by (try simp only [List.map_toArray, List.map_cons, List.map_nil]); first | done | rfl | (simp only [List.length_drop, List.length_take]; rfl)) ?_
      with_reducible refine (monticuleref18_There.calls a (l.length : Int) _ _ HTA.out).mono ?_
      rintro e w9 ⟨rfl, ⟨nd3, rfl⟩⟩
      refine ⟨_, rfl, ?_⟩
      refine hK.out _ _ hHeld (fun hHeld => ?_)
      clear hK K
      refine norm_ (a' := ?_) ?_ ?_
      rotate_left
      · show Act.put _ (some 35) _ = _
        simp only [Act.put, List.setIfInBounds_toArray, List.set_cons_zero, List.set_cons_succ, i64_w, i32_w]
        rfl
      have n0_ := Aside0.mk (blk_drewN BKg.out nd3)
      have n1_ := Aside0.mk (Kd.S_drewN HS4.out nd3)
      have n2_ := Aside0.mk (pw_below_drewN HBW.out nd3)
      generalize hw_ : w2.drewN nd3 = w3 at n0_ n1_ n2_ hHeld ⊢
      clear hw_ BKg HS4 HBW
      have BKg := n0_
      have HS4 := n1_
      have HBW := n2_
      clear n0_ n1_ n2_
      obtain ⟨hsu, hfu, s3, s4⟩ := S_class HS4.out (a / 2) HJX.out.1 (by have := HJX.out.2; exact this) cc
      have hbg := cell_apart3 BKg.out (fun _ => by simp) hsu
      refine pure_ (i := 12) (N := some 37) (v := ?_) (a' := ?_) #[true, true, true, true, true, true, true, true, true, true, true, true, true, false, false] rfl rfl (any_of HT_.out (by kernel_rfl)) (fun _ _ _ h => h) (Or.inl ⟨by rfl, ?_⟩) ?_ ?_
      rotate_left
      · intro w'
        go_simp
        with_reducible rfl
      rotate_left
      · simp only [Act.put, List.setIfInBounds_toArray, List.set_cons_zero, List.set_cons_succ, i64_w, i32_w]
        rfl
      refine pure_ (i := 13) (N := some 38) (v := ?_) (a' := ?_) #[true, true, true, true, true, true, true, true, true, true, true, true, true, true, false] rfl rfl (any_of HT_.out (by kernel_rfl)) (fun _ _ _ h => h) (Or.inl ⟨by rfl, ?_⟩) ?_ ?_
      rotate_left
      · intro w'
        go_simp
        with_reducible rfl
      rotate_left
      · simp only [Act.put, List.setIfInBounds_toArray, List.set_cons_zero, List.set_cons_succ, i64_w, i32_w]
        rfl
      refine last_ (i := 14) (N := none) #[true, true, true, true, true, true, true, true, true, true, true, true, true, true, true] rfl rfl (one_of HT_.out (by kernel_rfl)) (by decide) (fun K hK => ?_)
      refine skip_ (w1 := ?_) (by rfl) rfl ?_ ?_
      rotate_left
      · go_simp
        rfl
      refine hK.out _ _ ?_
      clear hK K
      refine done_ (done_of HT_.out (by kernel_rfl)) ?_
      have HN := Aside0.mk (show RefO (w3.setCell ⟨gl, (a / 2).toNat * 3, none⟩ (.int .u64 cc)) g B ok (putCL l a cc) o wd from ⟨.slice (some ⟨gl, 0, none⟩) l.length c, by rw [Below.heap_setCell _ _ _ _ (fun e => hbg e.symm)]; exact BKg.out, GG.out, GK.out, s3⟩)
      have HBN := Aside0.mk (show Frm ok w (w3.setCell ⟨gl, (a / 2).toNat * 3, none⟩ (.int .u64 cc)) from (Frm.of_below HBW.out).setCell (p := ⟨gl, (a / 2).toNat * 3, none⟩) ((Kd.S_R HS4.out).1 gl (by simp [Value.ownBlock])) _)
      clear s3 s4 hbg
      go_wp2
      go_ret
      exact ⟨rfl, HN.out, HBN.out⟩
end Go.Proofs.Ytiokegmpooildaa.Hp
