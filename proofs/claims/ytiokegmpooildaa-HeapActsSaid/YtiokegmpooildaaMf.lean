/- heap.Make, an object made, with what it leaves alone. -/
import Derived.Test.YtiokegmpooildaaMd
import Derived.Test.YtiokegmpooildaaSf
namespace Go.Proofs.Ytiokegmpooildaa.Hp
open Go.RowKit Go.Proofs.YtiokegmpooildaaW.PrintWords Go.Proofs.YtiokegmpooildaaW.PrintLast Go.Proofs.YtiokegmpooildaaW.PrintMore Go.Proofs.Ytiokegmpooildaa.PAll
set_option linter.unusedVariables false
set_option linter.unusedSimpArgs false
def BF (B : Nat) (ok : Nat → Prop) (w w' : World) : Prop := Below B w w' ∧ Frm ok w w'
theorem bf_refl (B : Nat) (ok : Nat → Prop) (w : World) : BF B ok w w := ⟨Below.refl _ _, Frm.refl _ _⟩
theorem bf_drewN {B : Nat} {ok : Nat → Prop} {a b : World} (h : BF B ok a b) (n : Nat) : BF B ok a (b.drewN n) := ⟨pw_below_drewN h.1 n, h.2.trans (Frm.of_below (pw_below_drewN (Below.refl _ _) n))⟩
theorem bf_drew {B : Nat} {ok : Nat → Prop} {a b : World} (h : BF B ok a b) : BF B ok a b.drew := ⟨below_drew h.1, h.2.trans (Frm.of_below (below_drew (Below.refl _ _)))⟩
theorem bf_set {B : Nat} {ok : Nat → Prop} {a b : World} (h : BF B ok a b) {p : Addr} (h1 : B ≤ p.block) (h2 : ok p.block) (u : Value) : BF B ok a (b.setCell p u) := ⟨h.1.setCell h1 u, h.2.setCell h2 u⟩
set_option maxHeartbeats 16000000 in
set_option maxRecDepth 100000 in
theorem heap_MakeF_ok (g B : Nat) (ok : Nat → Prop) (cls slots : Int) (A : Option Addr) (c : Nat) (bs : List Int) (l : List S53) (o wd u : Int) (w0 w : World) (hfr : ∀ k, w.heap.size ≤ k → ok k) (hO : HeapO w g B ok l o wd u) (hl : l.length ≤ 4999) (ha : W64 cls) (ht : thereP l.length cls = true)
    (s0 : 0 ≤ slots) (s1 : slots ≤ 1000) (hb : bs.length ≤ 8000) (hCb : Kd.C (Kd.int .u8) w0 A bs.length bs) (hcb : bs.length ≤ c) (hB0 : Below w0.heap.size w0 w) (hle : w0.heap.size ≤ B)
    (hu0 : 0 ≤ u) (hu1 : u ≤ wd) (hw2 : wd ≤ 1073741824) (hne : (l.length : Int) ≠ o) (hsz : szO (newO cls slots bs) ≤ wd - u) :
    Calls Try.prog 30 #[.pointer (some ⟨g, 0, none⟩), .int .u64 cls, .int .i64 slots, .slice A bs.length c] w fun e w' => e = .returned (.tuple #[.int .u64 (2 * (l.length : Int)), .int .i64 0]) ∧ HeapO w' g B ok (l ++ [newO cls slots bs]) o wd (u + szO (newO cls slots bs)) ∧ Frm ok w w' := by
  have HH := Aside0.mk hO.reads
  have HL := Aside0.mk (show l.length ≤ 5000 by omega)
  have HA := Aside0.mk ha
  have HT := Aside0.mk ht
  have HZ := Aside0.mk (size_new (cls := cls) s0 s1 hb)
  have HF := Aside0.mk (clone8_f hb)
  have HRF := Aside0.mk (ref_f (n := l.length) (by omega))
  have HCB := Aside0.mk hcb
  have HR := Aside0.mk hCb
  have HB0 := Aside0.mk hB0
  have HLE := Aside0.mk hle
  obtain ⟨v, hbk, hgb, hgb', hS⟩ := hO
  have BKg := Aside0.mk hbk
  have HO := Aside0.mk hS
  have GB := Aside0.mk hgb
  have GK := Aside0.mk hgb'
  have HFRS := Aside0.mk hfr
  clear hfr
  have hzz := szO_le (x := newO cls slots bs) (newO_small s1 hb)
  obtain ⟨x, hx⟩ : ∃ x, x = newO cls slots bs := ⟨_, rfl⟩
  have HX := Aside0.mk hx
  rw [← hx] at hsz HZ hzz ⊢
  obtain ⟨sz, hs⟩ : ∃ sz, sz = szO x := ⟨_, rfl⟩
  have HSZ := Aside0.mk hs
  rw [← hs] at hsz HZ hzz ⊢
  obtain ⟨Av, cv, ev⟩ := Kd.S_slice HO.out
  subst ev
  have k0 : w.cell? ⟨g, 0, none⟩ = some (.slice Av l.length cv) := (blk_cell hbk 0).trans rfl
  have k1 : w.cell? ⟨g, 1, none⟩ = some (.int .i64 o) := (blk_cell hbk 1).trans rfl
  have k2 : w.cell? ⟨g, 2, none⟩ = some (.int .i64 wd) := (blk_cell hbk 2).trans rfl
  have k3 : w.cell? ⟨g, 3, none⟩ = some (.int .i64 u) := (blk_cell hbk 3).trans rfl
  have b0 : decide (slots < 0) = false := decide_eq_false (by omega)
  have b1 : decide (1000 < slots) = false := decide_eq_false (by omega)
  have b2 : decide ((8000 : Int) < (bs.length : Int)) = false := decide_eq_false (by omega)
  have b3 : ((l.length : Int) == o) = false := by simpa using hne
  have b4 : decide (wd - u < sz) = false := decide_eq_false (by omega)
  clear hbk hgb hgb' hS hCb hcb hB0 hle ha ht hx hs
  go_enter Try.func30, Try.ntmps30
  go_wp2_with (first | (go_at_call 53; (with_reducible refine (heap_there g cls l o wd u _ (HH.out.below (Drawn0.below (by repeat (first | exact Drawn0.refl _ | apply Drawn0.step)))) HA.out HL.out).mono ?_); rintro e w' ⟨rfl, ⟨nd, rfl⟩⟩; rw [HT.out]))
  have n0_ := Aside0.mk (blk_drewN BKg.out nd)
  have n1_ := Aside0.mk (Kd.S_drewN HO.out nd)
  have n2_ := Aside0.mk (pw_below_drewN HB0.out nd)
  have n3_ := Aside0.mk (bf_drewN (bf_refl B ok w) nd)
  generalize hw_ : w.drewN nd = w1 at n0_ n1_ n2_ n3_ ⊢
  replace k0 : w1.cell? ⟨g, 0, none⟩ = some (.slice Av l.length cv) := (blk_cell n0_.out 0).trans rfl
  replace k1 : w1.cell? ⟨g, 1, none⟩ = some (.int .i64 o) := (blk_cell n0_.out 1).trans rfl
  replace k2 : w1.cell? ⟨g, 2, none⟩ = some (.int .i64 wd) := (blk_cell n0_.out 2).trans rfl
  replace k3 : w1.cell? ⟨g, 3, none⟩ = some (.int .i64 u) := (blk_cell n0_.out 3).trans rfl
  clear hw_ BKg HO HB0
  have BKg := n0_
  have HO := n1_
  have HB0 := n2_
  have HBB := n3_
  clear n0_ n1_ n2_ n3_
  go_quiet (first | (go_at_call 51; refine Calls.quiet_of ((heap_size.calls _ _ _ _ HZ.out).mono (fun e w' h => ⟨h.1, h.2.out⟩))))
  go_wp2
  have n0_ := Aside0.mk (blk_drewN BKg.out nq)
  have n1_ := Aside0.mk (Kd.S_drewN HO.out nq)
  have n2_ := Aside0.mk (pw_below_drewN HB0.out nq)
  have n3_ := Aside0.mk (bf_drewN HBB.out nq)
  generalize hw_ : w1.drewN nq = w2 at n0_ n1_ n2_ n3_ ⊢
  clear hw_ BKg HO HB0 HBB
  have BKg := n0_
  have HO := n1_
  have HB0 := n2_
  have HBB := n3_
  clear n0_ n1_ n2_ n3_
  refine start_ (n := 12) (S := fun w' => w'.cell? ⟨g, 3, none⟩ = some (.int .i64 u)) (ds := [11]) #[false, false, false, false, false, false, false, false, false, false, false, false] (by kernel_rfl) rfl rfl ((blk_cell (blk_drew BKg.out) 3).trans rfl) (fun hHeld => ?_); refine with_tabW mk.tab7 mk.bits7 (fun HT_ HW_ => ?_)
  have n0_ := Aside0.mk (blk_drew BKg.out)
  have n1_ := Aside0.mk (Kd.S_drew HO.out)
  have n2_ := Aside0.mk (below_drew HB0.out)
  have n3_ := Aside0.mk (bf_drew HBB.out)
  generalize hw_ : w2.drew = w3 at n0_ n1_ n2_ n3_ hHeld ⊢
  clear hw_ BKg HO HB0 HBB
  have BKg := n0_
  have HO := n1_
  have HB0 := n2_
  have HBB := n3_
  clear n0_ n1_ n2_ n3_
  refine pure_ (i := 0) (N := some 56) (v := ?_) (a' := ?_) #[true, false, false, false, false, false, false, false, false, false, false, false] rfl rfl (any_of HT_.out (by kernel_rfl)) (fun _ _ _ h => h) (Or.inl ⟨by rfl, ?_⟩) ?_ ?_
  rotate_left
  · intro w'
    go_simp
    with_reducible rfl
  rotate_left
  · simp only [Act.put, List.setIfInBounds_toArray, List.set_cons_zero, List.set_cons_succ, i64_w, i32_w]
    rfl
  refine pure_ (i := 1) (N := some 57) (v := ?_) (a' := ?_) #[true, true, false, false, false, false, false, false, false, false, false, false] rfl rfl (any_of HT_.out (by kernel_rfl)) (fun _ _ _ h => h) (Or.inl ⟨by rfl, ?_⟩) ?_ ?_
  rotate_left
  · intro w'
    go_simp
    with_reducible rfl
  rotate_left
  · simp only [Act.put, List.setIfInBounds_toArray, List.set_cons_zero, List.set_cons_succ, i64_w, i32_w]
    rfl
  refine pure_ (i := 2) (N := some 58) (v := ?_) (a' := ?_) #[true, true, true, false, false, false, false, false, false, false, false, false] rfl rfl (any_of HT_.out (by kernel_rfl)) (fun _ _ _ h => h) (Or.inl ⟨by rfl, ?_⟩) ?_ ?_
  rotate_left
  · intro w'
    go_simp
    with_reducible rfl
  rotate_left
  · simp only [Act.put, List.setIfInBounds_toArray, List.set_cons_zero, List.set_cons_succ, i64_w, i32_w]
    rfl
  refine pure_ (i := 4) (N := some 60) (v := ?_) (a' := ?_) #[true, true, true, false, true, false, false, false, false, false, false, false] rfl rfl (any_of HT_.out (by kernel_rfl)) (fun _ _ _ h => h) (Or.inl ⟨by rfl, ?_⟩) ?_ ?_
  rotate_left
  · intro w'
    go_simp
    with_reducible rfl
  rotate_left
  · simp only [Act.put, List.setIfInBounds_toArray, List.set_cons_zero, List.set_cons_succ, i64_w, i32_w]
    rfl
  refine pure_ (i := 5) (N := some 61) (v := ?_) (a' := ?_) #[true, true, true, false, true, true, false, false, false, false, false, false] rfl rfl (any_of HT_.out (by kernel_rfl)) (fun _ _ _ h => h) (Or.inl ⟨by rfl, ?_⟩) ?_ ?_
  rotate_left
  · intro w'
    go_simp
    with_reducible rfl
  rotate_left
  · simp only [Act.put, List.setIfInBounds_toArray, List.set_cons_zero, List.set_cons_succ, i64_w, i32_w]
    rfl
  refine pure_ (i := 6) (N := some 62) (v := ?_) (a' := ?_) #[true, true, true, false, true, true, true, false, false, false, false, false] rfl rfl (any_of HT_.out (by kernel_rfl)) (fun _ _ _ h => h) (Or.inl ⟨by rfl, ?_⟩) ?_ ?_
  rotate_left
  · intro w'
    go_simp
    with_reducible rfl
  rotate_left
  · simp only [Act.put, List.setIfInBounds_toArray, List.set_cons_zero, List.set_cons_succ, i64_w, i32_w]
    rfl
  refine take_ (i := 3) (N := some 59) (v := ?_) (a' := ?_) #[true, true, true, true, true, true, true, false, false, false, false, false] rfl rfl (take_ofW HT_.out HW_.out (by kernel_rfl)) (fun _ _ _ h => h) (Or.inl ⟨by rfl, ?_⟩) hHeld ?_ ?_
  rotate_left
  · rintro w' s0
    go_simp
    with_reducible rfl
  rotate_left
  · simp only [Act.put, List.setIfInBounds_toArray, List.set_cons_zero, List.set_cons_succ, i64_w, i32_w]
    rfl
  refine one_ (i := 7) (N := some 63) #[true, true, true, true, true, true, true, true, false, false, false, false] rfl rfl (one_of HT_.out (by kernel_rfl)) (by decide) (fun K hK => ?_)
  refine goes_ Try.func51 (by kernel_rfl) rfl #[.int .i64 slots, .int .i64 (bs.length : Int)] (by rfl) rfl rfl (by (try simp only [List.map_toArray, List.map_cons, List.map_nil]); first | done | rfl | (simp only [List.length_drop, List.length_take]; rfl)) ?_
  with_reducible refine (heap_size.calls _ _ _ _ HZ.out).mono ?_
  rintro e w7 ⟨rfl, ⟨nd, rfl⟩⟩
  refine ⟨_, rfl, ?_⟩
  refine hK.out _ _ ((blk_cell (blk_drewN BKg.out _) 3).trans rfl) (fun hHeld => ?_)
  clear hK K
  refine norm_ (a' := ?_) ?_ ?_
  rotate_left
  · show Act.put _ (some 63) _ = _
    simp only [Act.put, List.setIfInBounds_toArray, List.set_cons_zero, List.set_cons_succ, i64_w, i32_w]
    rfl
  refine pure_ (i := 8) (N := some 64) (v := ?_) (a' := ?_) #[true, true, true, true, true, true, true, true, true, false, false, false] rfl rfl (any_of HT_.out (by kernel_rfl)) (fun _ _ _ h => h) (Or.inl ⟨by rfl, ?_⟩) ?_ ?_
  rotate_left
  · intro w'
    go_simp
    with_reducible rfl
  rotate_left
  · simp only [Act.put, List.setIfInBounds_toArray, List.set_cons_zero, List.set_cons_succ, i64_w, i32_w]
    rfl
  refine pure_ (i := 9) (N := some 65) (v := ?_) (a' := ?_) #[true, true, true, true, true, true, true, true, true, true, false, false] rfl rfl (any_of HT_.out (by kernel_rfl)) (fun _ _ _ h => h) (Or.inl ⟨by rfl, ?_⟩) ?_ ?_
  rotate_left
  · intro w'
    go_simp
    with_reducible rfl
  rotate_left
  · simp only [Act.put, List.setIfInBounds_toArray, List.set_cons_zero, List.set_cons_succ, i64_w, i32_w]
    rfl
  refine pure_ (i := 10) (N := some 66) (v := ?_) (a' := ?_) #[true, true, true, true, true, true, true, true, true, true, true, false] rfl rfl (any_of HT_.out (by kernel_rfl)) (fun _ _ _ h => h) (Or.inl ⟨by rfl, ?_⟩) ?_ ?_
  rotate_left
  · intro w'
    go_simp
    with_reducible rfl
  rotate_left
  · simp only [Act.put, List.setIfInBounds_toArray, List.set_cons_zero, List.set_cons_succ, i64_w, i32_w]
    rfl
  have hsu : (w3.drewN nd).cell? ⟨g, 3, none⟩ = some (.int .i64 u) := (blk_cell (blk_drewN BKg.out _) 3).trans rfl
  have hfu := blk_frozen (blk_drewN BKg.out nd) 3
  refine last_ (i := 11) (N := none) #[true, true, true, true, true, true, true, true, true, true, true, true] rfl rfl (one_of HT_.out (by kernel_rfl)) (by decide) (fun K hK => ?_)
  refine skip_ (w1 := ?_) (by rfl) rfl ?_ ?_
  rotate_left
  · go_simp
    rfl
  refine hK.out _ _ ?_
  clear hK K
  refine done_ (done_of HT_.out (by kernel_rfl)) ?_
  have HU2 := Aside0.mk (show wrap64 (u + sz) = u + sz by unfold wrap64; omega)
  have n0_ := Aside0.mk (show ((w3.drewN nd).setCell ⟨g, 3, none⟩ (.int .i64 (wrap64 (u + sz)))).heap[g]? = some (.cells #[(.slice Av l.length cv), .int .i64 o, .int .i64 wd, .int .i64 (wrap64 (u + sz))] 94 (0, 0)) from blk_put (cs := #[(.slice Av l.length cv), .int .i64 o, .int .i64 wd, .int .i64 u]) (blk_drewN BKg.out _) 3 _ rfl)
  have n1_ := Aside0.mk (Kd.S_mono (Kd.S_far (p := ⟨g, 3, none⟩) (Kd.S_types (Kd.S_drewN HO.out nd) (blk_drewN BKg.out nd) (by decide)) (fun _ hk => hk.2) (.int .i64 (wrap64 (u + sz)))) (ok' := ok) (fun _ hk => hk.1))
  have n2_ := Aside0.mk (show Below w0.heap.size w0 ((w3.drewN nd).setCell ⟨g, 3, none⟩ (.int .i64 (wrap64 (u + sz)))) from (pw_below_drewN HB0.out nd).setCell (Nat.le_trans HLE.out GB.out) _)
  have n3_ := Aside0.mk (show BF B ok w ((w3.drewN nd).setCell ⟨g, 3, none⟩ (.int .i64 (wrap64 (u + sz)))) from bf_set (bf_drewN HBB.out nd) GB.out GK.out _)
  generalize hw_ : ((w3.drewN nd).setCell ⟨g, 3, none⟩ (.int .i64 (wrap64 (u + sz)))) = w4 at n0_ n1_ n2_ n3_ ⊢
  clear hw_ BKg HO HB0 HBB
  have BKg := n0_
  have HO := n1_
  have HB0 := n2_
  have HBB := n3_
  clear n0_ n1_ n2_ n3_
  clear hsu hfu hHeld HT_ HW_
  rw [HU2.out] at BKg
  try clear k0 k1 k2 k3
  go_wp2
  refine start_ (n := 16) (S := fun w' => w'.cell? ⟨g, 0, none⟩ = some (.slice Av l.length cv)) (ds := [15]) #[false, false, false, false, false, false, false, false, false, false, false, false, false, false, false, false] (by kernel_rfl) rfl rfl ((blk_cell (blk_drew BKg.out) 0).trans rfl) (fun hHeld => ?_); refine with_tabW mk.tab8 mk.bits8 (fun HT_ HW_ => ?_)
  have n0_ := Aside0.mk (blk_drew BKg.out)
  have n1_ := Aside0.mk (Kd.S_drew HO.out)
  have n2_ := Aside0.mk (below_drew HB0.out)
  have n3_ := Aside0.mk (bf_drew HBB.out)
  generalize hw_ : w4.drew = w5 at n0_ n1_ n2_ n3_ hHeld ⊢
  clear hw_ BKg HO HB0 HBB
  have BKg := n0_
  have HO := n1_
  have HB0 := n2_
  have HBB := n3_
  clear n0_ n1_ n2_ n3_
  have HC := Aside0.mk (Below.refl w5.heap.size w5)
  have HBS := Aside0.mk (show B ≤ w5.heap.size from Nat.le_trans GB.out (Nat.le_of_lt (blk_lt BKg.out)))
  refine pure_ (i := 0) (N := some 67) (v := ?_) (a' := ?_) #[true, false, false, false, false, false, false, false, false, false, false, false, false, false, false, false] rfl rfl (any_of HT_.out (by kernel_rfl)) (fun _ _ _ h => h) (Or.inl ⟨by rfl, ?_⟩) ?_ ?_
  rotate_left
  · intro w'
    go_simp
    with_reducible rfl
  rotate_left
  · simp only [Act.put, List.setIfInBounds_toArray, List.set_cons_zero, List.set_cons_succ, i64_w, i32_w]
    rfl
  refine pure_ (i := 1) (N := some 68) (v := ?_) (a' := ?_) #[true, true, false, false, false, false, false, false, false, false, false, false, false, false, false, false] rfl rfl (any_of HT_.out (by kernel_rfl)) (fun _ _ _ h => h) (Or.inl ⟨by rfl, ?_⟩) ?_ ?_
  rotate_left
  · intro w'
    go_simp
    with_reducible rfl
  rotate_left
  · simp only [Act.put, List.setIfInBounds_toArray, List.set_cons_zero, List.set_cons_succ, i64_w, i32_w]
    rfl
  refine pure_ (i := 2) (N := some 69) (v := ?_) (a' := ?_) #[true, true, true, false, false, false, false, false, false, false, false, false, false, false, false, false] rfl rfl (any_of HT_.out (by kernel_rfl)) (fun _ _ _ h => h) (Or.inl ⟨by rfl, ?_⟩) ?_ ?_
  rotate_left
  · intro w'
    go_simp
    with_reducible rfl
  rotate_left
  · simp only [Act.put, List.setIfInBounds_toArray, List.set_cons_zero, List.set_cons_succ, i64_w, i32_w]
    rfl
  refine pure_ (i := 3) (N := some 70) (v := ?_) (a' := ?_) #[true, true, true, true, false, false, false, false, false, false, false, false, false, false, false, false] rfl rfl (any_of HT_.out (by kernel_rfl)) (fun _ _ _ h => h) (Or.inl ⟨by rfl, ?_⟩) ?_ ?_
  rotate_left
  · intro w'
    go_simp
    with_reducible rfl
  rotate_left
  · simp only [Act.put, List.setIfInBounds_toArray, List.set_cons_zero, List.set_cons_succ, i64_w, i32_w]
    rfl
  refine pure_ (i := 5) (N := some 72) (v := ?_) (a' := ?_) #[true, true, true, true, false, true, false, false, false, false, false, false, false, false, false, false] rfl rfl (any_of HT_.out (by kernel_rfl)) (fun _ _ _ h => h) (Or.inl ⟨by rfl, ?_⟩) ?_ ?_
  rotate_left
  · intro w'
    go_simp
    with_reducible rfl
  rotate_left
  · simp only [Act.put, List.setIfInBounds_toArray, List.set_cons_zero, List.set_cons_succ, i64_w, i32_w]
    rfl
  refine pure_ (i := 6) (N := some 73) (v := ?_) (a' := ?_) #[true, true, true, true, false, true, true, false, false, false, false, false, false, false, false, false] rfl rfl (any_of HT_.out (by kernel_rfl)) (fun _ _ _ h => h) (Or.inl ⟨by rfl, ?_⟩) ?_ ?_
  rotate_left
  · intro w'
    go_simp
    with_reducible rfl
  rotate_left
  · simp only [Act.put, List.setIfInBounds_toArray, List.set_cons_zero, List.set_cons_succ, i64_w, i32_w]
    rfl
  refine pure_ (i := 8) (N := some 75) (v := ?_) (a' := ?_) #[true, true, true, true, false, true, true, false, true, false, false, false, false, false, false, false] rfl rfl (any_of HT_.out (by kernel_rfl)) (fun _ _ _ h => h) (Or.inl ⟨by rfl, ?_⟩) ?_ ?_
  rotate_left
  · intro w'
    go_simp
    with_reducible rfl
  rotate_left
  · simp only [Act.put, List.setIfInBounds_toArray, List.set_cons_zero, List.set_cons_succ, i64_w, i32_w]
    rfl
  refine take_ (i := 4) (N := some 71) (v := ?_) (a' := ?_) #[true, true, true, true, true, true, true, false, true, false, false, false, false, false, false, false] rfl rfl (take_ofW HT_.out HW_.out (by kernel_rfl)) (fun _ _ _ h => h) (Or.inl ⟨by rfl, ?_⟩) hHeld ?_ ?_
  rotate_left
  · rintro w' s0
    go_simp
    with_reducible rfl
  rotate_left
  · simp only [Act.put, List.setIfInBounds_toArray, List.set_cons_zero, List.set_cons_succ, i64_w, i32_w]
    rfl
  refine two_ (i := 7) (j := 9) (Ni := some 74) (Nj := some 76) #[true, true, true, true, true, true, true, true, true, false, false, false, false, false, false, false] #[true, true, true, true, true, true, true, false, true, true, false, false, false, false, false, false] rfl rfl rfl rfl (two_of HT_.out (by kernel_rfl)) (by decide) (by decide) (fun K hK => ?_) (fun K hK => ?_)
  · refine Kd.R_make_step (Kd.int .u64) _ 36 ?hg (N := 74) ?hd 50 (.tmp 73) (.tmp 73) ?ho slots ?hx ?hy Try.underlying50 (.int .u64 0) 8 info36 rfl (by decide) (by decide) 0 (ok := fun _ => True) (okp := fun _ => True) rfl (fun _ h => h) trivial s0 (by omega) (Below.refl _ _) (Nat.le_refl _) ?_; (case hg => rfl); (case hd => rfl); (case ho => rfl); (case hx => rfl); (case hy => rfl)
    intro v1 w9 ho1 hb hg_ hat_
    clear hg_ hat_
    obtain ⟨zs, hzs⟩ : ∃ zs : List Int, zs = List.replicate slots.toNat 0 := ⟨_, rfl⟩
    rw [← hzs] at ho1
    have HZS := Aside0.mk hzs
    clear hzs
    have n0_ := Aside0.mk (row_new (W0 := w5) (B := B) ho1 HC.out.size HBS.out)
    have n1_ := Aside0.mk (blk_below BKg.out hb)
    have n2_ := Aside0.mk (below_step HC.out hb)
    clear HC BKg ho1 hb
    have HO1 := n0_
    have BKg := n1_
    have HC := n2_
    clear n0_ n1_ n2_
    obtain ⟨Ao1, co1, eo1⟩ := Kd.R_slice HO1.out
    subst eo1
    refine hK.out _ _ ((blk_cell BKg.out 0).trans rfl) (fun hHeld => ?_)
    clear hK K
    refine norm_ (a' := ?_) ?_ ?_
    rotate_left
    · show Act.put _ (some 74) _ = _
      simp only [Act.put, List.setIfInBounds_toArray, List.set_cons_zero, List.set_cons_succ, i64_w, i32_w]
      rfl
    refine one_ (i := 9) (N := some 76) #[true, true, true, true, true, true, true, true, true, true, false, false, false, false, false, false] rfl rfl (one_of HT_.out (by kernel_rfl)) (by decide) (fun K hK => ?_)
    refine goes_ Try.func65 (by kernel_rfl) rfl #[.slice A bs.length c] (by rfl) rfl rfl (by (try simp only [List.map_toArray, List.map_cons, List.map_nil]); first | done | rfl) ?_
    with_reducible refine (bytes_Clone.calls _ _ bs bs _ ?side1 ?side2 HF.out).mono ?_
    (case side1 => exact Kd.C_below HR.out (below_step HB0.out HC.out))
    (case side2 => exact HCB.out)
    rintro e w9 ⟨v2, rfl, ho2, hb⟩
    refine ⟨_, rfl, ?_⟩
    have n0_ := Aside0.mk (row_new (W0 := w5) (B := B) ho2 HC.out.size HBS.out)
    have n1_ := Aside0.mk (blk_below BKg.out hb)
    have n2_ := Aside0.mk (below_step HC.out hb)
    have m_ := Aside0.mk (Kd.R_below HO1.out hb)
    clear HO1
    have HO1 := m_
    clear m_
    clear HC BKg ho2 hb
    have HO2 := n0_
    have BKg := n1_
    have HC := n2_
    clear n0_ n1_ n2_
    obtain ⟨Ao2, co2, eo2⟩ := Kd.R_slice HO2.out
    subst eo2
    refine hK.out _ _ ((blk_cell BKg.out 0).trans rfl) (fun hHeld => ?_)
    clear hK K
    refine norm_ (a' := ?_) ?_ ?_
    rotate_left
    · show Act.put _ (some 76) _ = _
      simp only [Act.put, List.setIfInBounds_toArray, List.set_cons_zero, List.set_cons_succ, i64_w, i32_w]
      rfl
    refine pure_ (i := 10) (N := some 77) (v := ?_) (a' := ?_) #[true, true, true, true, true, true, true, true, true, true, true, false, false, false, false, false] rfl rfl (any_of HT_.out (by kernel_rfl)) (fun _ _ _ h => h) (Or.inl ⟨by rfl, ?_⟩) ?_ ?_
    rotate_left
    · intro w'
      go_simp
      with_reducible rfl
    rotate_left
    · simp only [Act.put, List.setIfInBounds_toArray, List.set_cons_zero, List.set_cons_succ, i64_w, i32_w]
      rfl
    refine one_ (i := 11) (N := some 78) #[true, true, true, true, true, true, true, true, true, true, true, true, false, false, false, false] rfl rfl (one_of HT_.out (by kernel_rfl)) (by decide) (fun K hK => ?_)
    refine value_ (w1 := ?_) (v := ?_) (by rfl) rfl ?_ ?_
    rotate_left 2
    · go_simp
      constructor
      · rfl
      · rfl
    refine hK.out _ _ ((blk_cell (blk_alloc BKg.out _) 0).trans rfl) (fun hHeld => ?_)
    clear hK K
    refine norm_ (a' := ?_) ?_ ?_
    rotate_left
    · show Act.put _ (some 78) _ = _
      simp only [Act.put, List.setIfInBounds_toArray, List.set_cons_zero, List.set_cons_succ, i64_w, i32_w]
      rfl
    refine one_ (i := 12) (N := some 79) #[true, true, true, true, true, true, true, true, true, true, true, true, true, false, false, false] rfl rfl (one_of HT_.out (by kernel_rfl)) (by decide) (fun K hK => ?_)
    refine Kd.S_append_step k53 (w0 := w) B (by rfl) (.tmp 71) (.tmp 78) 22 53 (.agg #[(.int .u64 0), (.slice none 0 0), (.slice none 0 0)]) 56 rfl Try.underlying22 info53_ rfl (by decide) (by omega) (.slice Av l.length cv) l (⟨cls, zs, bs⟩ : S53) [.int .u64 cls, .slice Ao1 zs.length co1, .slice Ao2 bs.length co2] ok (fun k => w5.heap.size ≤ k) rfl rfl ?aP ?aN ?aF ?aO ?aB ?aS ?aL ?_
    (case aP => exact k53_mkM _ _ _ (⟨cls, zs, bs⟩ : S53) HO1.out HO2.out)
    (case aN => exact fun k hk => ⟨HFRS.out k (Nat.le_trans HBB.out.2.1.size hk), fun e_ => by have := Kd.R_lt (Kd.S_R HO.out) k e_.symm; omega⟩)
    (case aF => exact fun k hk => HFRS.out k (Nat.le_trans HBB.out.2.1.size (Nat.le_trans HC.out.size hk)))
    (case aO => exact Kd.S_mono (Kd.S_old HO.out HC.out) (fun k hk => ⟨hk.1, by have := hk.2; omega⟩))
    (case aB => exact below_then HBB.out.1 HBS.out HC.out)
    (case aS => exact Nat.le_trans HBS.out HC.out.size)
    (case aL => omega)
    intro v9 w10 ho hb hg hat
    obtain ⟨ys, hy⟩ : ∃ ys, ys = l ++ [(⟨cls, zs, bs⟩ : S53)] := ⟨_, rfl⟩
    rw [← hy] at ho
    have HY := Aside0.mk (show ys = l ++ [newO cls slots bs] by rw [hy]; unfold newO; rw [HZS.out])
    have HYL := Aside0.mk (show ys.length = l.length + 1 by rw [hy, List.length_append]; rfl)
    have hyb : ys.length ≤ 5000 := by rw [HYL.out]; omega
    have hyb1 : 1 ≤ ys.length := by rw [HYL.out]; omega
    clear hy
    have n0_ := Aside0.mk ho
    have n1_ := Aside0.mk (show BF B ok w w10 from ⟨hb, (HBB.out.2.trans (Frm.of_below HC.out)).grown hg (fun k hk => (Kd.S_R HO.out).1 k hk)⟩)
    have n2_ := Aside0.mk (blk_grown BKg.out hg (Kd.R_ne (Kd.R_below (Kd.S_R HO.out) HC.out) BKg.out (by decide)))
    clear HO HBB HC BKg HO1 HO2
    have HO := n0_
    have HBB := n1_
    have BKg := n2_
    clear n0_ n1_ n2_ ho hb hg hat
    obtain ⟨Av2, cv2, ev2⟩ := Kd.S_slice HO.out
    subst ev2
    refine hK.out _ _ ((blk_cell BKg.out 0).trans rfl) (fun hHeld => ?_)
    clear hK K
    refine norm_ (a' := ?_) ?_ ?_
    rotate_left
    · show Act.put _ (some 79) _ = _
      simp only [Act.put, List.setIfInBounds_toArray, List.set_cons_zero, List.set_cons_succ, i64_w, i32_w]
      rfl
    refine pure_ (i := 13) (N := some 80) (v := ?_) (a' := ?_) #[true, true, true, true, true, true, true, true, true, true, true, true, true, true, false, false] rfl rfl (any_of HT_.out (by kernel_rfl)) (fun _ _ _ h => h) (Or.inl ⟨by rfl, ?_⟩) ?_ ?_
    rotate_left
    · intro w'
      go_simp
      with_reducible rfl
    rotate_left
    · simp only [Act.put, List.setIfInBounds_toArray, List.set_cons_zero, List.set_cons_succ, i64_w, i32_w]
      rfl
    refine pure_ (i := 14) (N := some 81) (v := ?_) (a' := ?_) #[true, true, true, true, true, true, true, true, true, true, true, true, true, true, true, false] rfl rfl (any_of HT_.out (by kernel_rfl)) (fun _ _ _ h => h) (Or.inl ⟨by rfl, ?_⟩) ?_ ?_
    rotate_left
    · intro w'
      go_simp
      with_reducible rfl
    rotate_left
    · simp only [Act.put, List.setIfInBounds_toArray, List.set_cons_zero, List.set_cons_succ, i64_w, i32_w]
      rfl
    have hsu : w10.cell? ⟨g, 0, none⟩ = some (.slice Av l.length cv) := (blk_cell BKg.out 0).trans rfl
    have hfu := blk_frozen BKg.out 0
    refine last_ (i := 15) (N := none) #[true, true, true, true, true, true, true, true, true, true, true, true, true, true, true, true] rfl rfl (one_of HT_.out (by kernel_rfl)) (by decide) (fun K hK => ?_)
    refine skip_ (w1 := ?_) (by rfl) rfl ?_ ?_
    rotate_left
    · go_simp
      rfl
    refine hK.out _ _ ?_
    clear hK K
    refine done_ (done_of HT_.out (by kernel_rfl)) ?_
    have n0_ := Aside0.mk (show (w10.setCell ⟨g, 0, none⟩ (.slice Av2 ys.length cv2)).heap[g]? = some (.cells #[(.slice Av2 ys.length cv2), .int .i64 o, .int .i64 wd, .int .i64 (u + sz)] 94 (0, 0)) from blk_put (cs := #[(.slice Av l.length cv), .int .i64 o, .int .i64 wd, .int .i64 (u + sz)]) BKg.out 0 _ rfl)
    have n1_ := Aside0.mk (Kd.S_mono (Kd.S_far (p := ⟨g, 0, none⟩) (Kd.S_types HO.out BKg.out (by decide)) (fun _ hk => hk.2) (.slice Av2 ys.length cv2)) (ok' := ok) (fun _ hk => hk.1))
    have n2_ := Aside0.mk (show BF B ok w (w10.setCell ⟨g, 0, none⟩ (.slice Av2 ys.length cv2)) from bf_set HBB.out GB.out GK.out _)
    generalize hw_ : (w10.setCell ⟨g, 0, none⟩ (.slice Av2 ys.length cv2)) = w11 at n0_ n1_ n2_ ⊢
    clear hw_ BKg HO HBB
    have BKg := n0_
    have HO := n1_
    have HBB := n2_
    clear n0_ n1_ n2_
    clear hsu hfu hHeld HT_ HW_
    have kk0 : w11.cell? ⟨g, 0, none⟩ = some (.slice Av2 ys.length cv2) := (blk_cell BKg.out 0).trans rfl
    have HRE := Aside0.mk (show word_Ref.f ((ys.length : Int) - 1) = some (2 * (l.length : Int), true) by rw [show (ys.length : Int) - 1 = (l.length : Int) by rw [HYL.out]; omega]; exact HRF.out)
    go_wp2_with (first | (go_at_call 66; (with_reducible refine (word_Ref.calls ((ys.length : Int) - 1) _ _ _ HRE.out).mono ?_); rintro e w' ⟨rfl, ⟨nd, rfl⟩⟩))
    go_ret2
    exact ⟨rfl, ⟨_, blk_drewN BKg.out _, GB.out, GK.out, by rw [HX.out, ← HY.out]; exact Kd.S_drewN HO.out _⟩, (bf_drewN HBB.out _).2⟩
  · refine goes_ Try.func65 (by kernel_rfl) rfl #[.slice A bs.length c] (by rfl) rfl rfl (by (try simp only [List.map_toArray, List.map_cons, List.map_nil]); first | done | rfl) ?_
    with_reducible refine (bytes_Clone.calls _ _ bs bs _ ?side1 ?side2 HF.out).mono ?_
    (case side1 => exact Kd.C_below HR.out (below_step HB0.out HC.out))
    (case side2 => exact HCB.out)
    rintro e w9 ⟨v2, rfl, ho2, hb⟩
    refine ⟨_, rfl, ?_⟩
    have n0_ := Aside0.mk (row_new (W0 := w5) (B := B) ho2 HC.out.size HBS.out)
    have n1_ := Aside0.mk (blk_below BKg.out hb)
    have n2_ := Aside0.mk (below_step HC.out hb)
    clear HC BKg ho2 hb
    have HO2 := n0_
    have BKg := n1_
    have HC := n2_
    clear n0_ n1_ n2_
    obtain ⟨Ao2, co2, eo2⟩ := Kd.R_slice HO2.out
    subst eo2
    refine hK.out _ _ ((blk_cell BKg.out 0).trans rfl) (fun hHeld => ?_)
    clear hK K
    refine norm_ (a' := ?_) ?_ ?_
    rotate_left
    · show Act.put _ (some 76) _ = _
      simp only [Act.put, List.setIfInBounds_toArray, List.set_cons_zero, List.set_cons_succ, i64_w, i32_w]
      rfl
    refine one_ (i := 7) (N := some 74) #[true, true, true, true, true, true, true, true, true, true, false, false, false, false, false, false] rfl rfl (one_of HT_.out (by kernel_rfl)) (by decide) (fun K hK => ?_)
    refine Kd.R_make_step (Kd.int .u64) _ 36 ?hg (N := 74) ?hd 50 (.tmp 73) (.tmp 73) ?ho slots ?hx ?hy Try.underlying50 (.int .u64 0) 8 info36 rfl (by decide) (by decide) 0 (ok := fun _ => True) (okp := fun _ => True) rfl (fun _ h => h) trivial s0 (by omega) (Below.refl _ _) (Nat.le_refl _) ?_; (case hg => rfl); (case hd => rfl); (case ho => rfl); (case hx => rfl); (case hy => rfl)
    intro v1 w9 ho1 hb hg_ hat_
    clear hg_ hat_
    obtain ⟨zs, hzs⟩ : ∃ zs : List Int, zs = List.replicate slots.toNat 0 := ⟨_, rfl⟩
    rw [← hzs] at ho1
    have HZS := Aside0.mk hzs
    clear hzs
    have n0_ := Aside0.mk (row_new (W0 := w5) (B := B) ho1 HC.out.size HBS.out)
    have n1_ := Aside0.mk (blk_below BKg.out hb)
    have n2_ := Aside0.mk (below_step HC.out hb)
    have m_ := Aside0.mk (Kd.R_below HO2.out hb)
    clear HO2
    have HO2 := m_
    clear m_
    clear HC BKg ho1 hb
    have HO1 := n0_
    have BKg := n1_
    have HC := n2_
    clear n0_ n1_ n2_
    obtain ⟨Ao1, co1, eo1⟩ := Kd.R_slice HO1.out
    subst eo1
    refine hK.out _ _ ((blk_cell BKg.out 0).trans rfl) (fun hHeld => ?_)
    clear hK K
    refine norm_ (a' := ?_) ?_ ?_
    rotate_left
    · show Act.put _ (some 74) _ = _
      simp only [Act.put, List.setIfInBounds_toArray, List.set_cons_zero, List.set_cons_succ, i64_w, i32_w]
      rfl
    refine pure_ (i := 10) (N := some 77) (v := ?_) (a' := ?_) #[true, true, true, true, true, true, true, true, true, true, true, false, false, false, false, false] rfl rfl (any_of HT_.out (by kernel_rfl)) (fun _ _ _ h => h) (Or.inl ⟨by rfl, ?_⟩) ?_ ?_
    rotate_left
    · intro w'
      go_simp
      with_reducible rfl
    rotate_left
    · simp only [Act.put, List.setIfInBounds_toArray, List.set_cons_zero, List.set_cons_succ, i64_w, i32_w]
      rfl
    refine one_ (i := 11) (N := some 78) #[true, true, true, true, true, true, true, true, true, true, true, true, false, false, false, false] rfl rfl (one_of HT_.out (by kernel_rfl)) (by decide) (fun K hK => ?_)
    refine value_ (w1 := ?_) (v := ?_) (by rfl) rfl ?_ ?_
    rotate_left 2
    · go_simp
      constructor
      · rfl
      · rfl
    refine hK.out _ _ ((blk_cell (blk_alloc BKg.out _) 0).trans rfl) (fun hHeld => ?_)
    clear hK K
    refine norm_ (a' := ?_) ?_ ?_
    rotate_left
    · show Act.put _ (some 78) _ = _
      simp only [Act.put, List.setIfInBounds_toArray, List.set_cons_zero, List.set_cons_succ, i64_w, i32_w]
      rfl
    refine one_ (i := 12) (N := some 79) #[true, true, true, true, true, true, true, true, true, true, true, true, true, false, false, false] rfl rfl (one_of HT_.out (by kernel_rfl)) (by decide) (fun K hK => ?_)
    refine Kd.S_append_step k53 (w0 := w) B (by rfl) (.tmp 71) (.tmp 78) 22 53 (.agg #[(.int .u64 0), (.slice none 0 0), (.slice none 0 0)]) 56 rfl Try.underlying22 info53_ rfl (by decide) (by omega) (.slice Av l.length cv) l (⟨cls, zs, bs⟩ : S53) [.int .u64 cls, .slice Ao1 zs.length co1, .slice Ao2 bs.length co2] ok (fun k => w5.heap.size ≤ k) rfl rfl ?aP ?aN ?aF ?aO ?aB ?aS ?aL ?_
    (case aP => exact k53_mkM _ _ _ (⟨cls, zs, bs⟩ : S53) HO1.out HO2.out)
    (case aN => exact fun k hk => ⟨HFRS.out k (Nat.le_trans HBB.out.2.1.size hk), fun e_ => by have := Kd.R_lt (Kd.S_R HO.out) k e_.symm; omega⟩)
    (case aF => exact fun k hk => HFRS.out k (Nat.le_trans HBB.out.2.1.size (Nat.le_trans HC.out.size hk)))
    (case aO => exact Kd.S_mono (Kd.S_old HO.out HC.out) (fun k hk => ⟨hk.1, by have := hk.2; omega⟩))
    (case aB => exact below_then HBB.out.1 HBS.out HC.out)
    (case aS => exact Nat.le_trans HBS.out HC.out.size)
    (case aL => omega)
    intro v9 w10 ho hb hg hat
    obtain ⟨ys, hy⟩ : ∃ ys, ys = l ++ [(⟨cls, zs, bs⟩ : S53)] := ⟨_, rfl⟩
    rw [← hy] at ho
    have HY := Aside0.mk (show ys = l ++ [newO cls slots bs] by rw [hy]; unfold newO; rw [HZS.out])
    have HYL := Aside0.mk (show ys.length = l.length + 1 by rw [hy, List.length_append]; rfl)
    have hyb : ys.length ≤ 5000 := by rw [HYL.out]; omega
    have hyb1 : 1 ≤ ys.length := by rw [HYL.out]; omega
    clear hy
    have n0_ := Aside0.mk ho
    have n1_ := Aside0.mk (show BF B ok w w10 from ⟨hb, (HBB.out.2.trans (Frm.of_below HC.out)).grown hg (fun k hk => (Kd.S_R HO.out).1 k hk)⟩)
    have n2_ := Aside0.mk (blk_grown BKg.out hg (Kd.R_ne (Kd.R_below (Kd.S_R HO.out) HC.out) BKg.out (by decide)))
    clear HO HBB HC BKg HO1 HO2
    have HO := n0_
    have HBB := n1_
    have BKg := n2_
    clear n0_ n1_ n2_ ho hb hg hat
    obtain ⟨Av2, cv2, ev2⟩ := Kd.S_slice HO.out
    subst ev2
    refine hK.out _ _ ((blk_cell BKg.out 0).trans rfl) (fun hHeld => ?_)
    clear hK K
    refine norm_ (a' := ?_) ?_ ?_
    rotate_left
    · show Act.put _ (some 79) _ = _
      simp only [Act.put, List.setIfInBounds_toArray, List.set_cons_zero, List.set_cons_succ, i64_w, i32_w]
      rfl
    refine pure_ (i := 13) (N := some 80) (v := ?_) (a' := ?_) #[true, true, true, true, true, true, true, true, true, true, true, true, true, true, false, false] rfl rfl (any_of HT_.out (by kernel_rfl)) (fun _ _ _ h => h) (Or.inl ⟨by rfl, ?_⟩) ?_ ?_
    rotate_left
    · intro w'
      go_simp
      with_reducible rfl
    rotate_left
    · simp only [Act.put, List.setIfInBounds_toArray, List.set_cons_zero, List.set_cons_succ, i64_w, i32_w]
      rfl
    refine pure_ (i := 14) (N := some 81) (v := ?_) (a' := ?_) #[true, true, true, true, true, true, true, true, true, true, true, true, true, true, true, false] rfl rfl (any_of HT_.out (by kernel_rfl)) (fun _ _ _ h => h) (Or.inl ⟨by rfl, ?_⟩) ?_ ?_
    rotate_left
    · intro w'
      go_simp
      with_reducible rfl
    rotate_left
    · simp only [Act.put, List.setIfInBounds_toArray, List.set_cons_zero, List.set_cons_succ, i64_w, i32_w]
      rfl
    have hsu : w10.cell? ⟨g, 0, none⟩ = some (.slice Av l.length cv) := (blk_cell BKg.out 0).trans rfl
    have hfu := blk_frozen BKg.out 0
    refine last_ (i := 15) (N := none) #[true, true, true, true, true, true, true, true, true, true, true, true, true, true, true, true] rfl rfl (one_of HT_.out (by kernel_rfl)) (by decide) (fun K hK => ?_)
    refine skip_ (w1 := ?_) (by rfl) rfl ?_ ?_
    rotate_left
    · go_simp
      rfl
    refine hK.out _ _ ?_
    clear hK K
    refine done_ (done_of HT_.out (by kernel_rfl)) ?_
    have n0_ := Aside0.mk (show (w10.setCell ⟨g, 0, none⟩ (.slice Av2 ys.length cv2)).heap[g]? = some (.cells #[(.slice Av2 ys.length cv2), .int .i64 o, .int .i64 wd, .int .i64 (u + sz)] 94 (0, 0)) from blk_put (cs := #[(.slice Av l.length cv), .int .i64 o, .int .i64 wd, .int .i64 (u + sz)]) BKg.out 0 _ rfl)
    have n1_ := Aside0.mk (Kd.S_mono (Kd.S_far (p := ⟨g, 0, none⟩) (Kd.S_types HO.out BKg.out (by decide)) (fun _ hk => hk.2) (.slice Av2 ys.length cv2)) (ok' := ok) (fun _ hk => hk.1))
    have n2_ := Aside0.mk (show BF B ok w (w10.setCell ⟨g, 0, none⟩ (.slice Av2 ys.length cv2)) from bf_set HBB.out GB.out GK.out _)
    generalize hw_ : (w10.setCell ⟨g, 0, none⟩ (.slice Av2 ys.length cv2)) = w11 at n0_ n1_ n2_ ⊢
    clear hw_ BKg HO HBB
    have BKg := n0_
    have HO := n1_
    have HBB := n2_
    clear n0_ n1_ n2_
    clear hsu hfu hHeld HT_ HW_
    have kk0 : w11.cell? ⟨g, 0, none⟩ = some (.slice Av2 ys.length cv2) := (blk_cell BKg.out 0).trans rfl
    have HRE := Aside0.mk (show word_Ref.f ((ys.length : Int) - 1) = some (2 * (l.length : Int), true) by rw [show (ys.length : Int) - 1 = (l.length : Int) by rw [HYL.out]; omega]; exact HRF.out)
    go_wp2_with (first | (go_at_call 66; (with_reducible refine (word_Ref.calls ((ys.length : Int) - 1) _ _ _ HRE.out).mono ?_); rintro e w' ⟨rfl, ⟨nd, rfl⟩⟩))
    go_ret2
    exact ⟨rfl, ⟨_, blk_drewN BKg.out _, GB.out, GK.out, by rw [HX.out, ← HY.out]; exact Kd.S_drewN HO.out _⟩, (bf_drewN HBB.out _).2⟩
end Go.Proofs.Ytiokegmpooildaa.Hp
namespace Go.Proofs.Ytiokegmpooildaa.Hp
open Go.RowKit Go.Proofs.YtiokegmpooildaaW.PrintWords Go.Proofs.YtiokegmpooildaaW.PrintLast Go.Proofs.YtiokegmpooildaaW.PrintMore Go.Proofs.Ytiokegmpooildaa.PAll
set_option linter.unusedVariables false
set_option linter.unusedSimpArgs false
set_option maxHeartbeats 16000000 in
set_option maxRecDepth 100000 in
theorem heap_MakeF (g B : Nat) (ok : Nat → Prop) (cls slots : Int) (A : Option Addr) (c : Nat) (bs : List Int) (l : List S53) (o wd u : Int) (w0 w : World) (hfr : ∀ k, w.heap.size ≤ k → ok k) (hO : HeapO w g B ok l o wd u) (hl : (l.length : Int) ≤ o) (ho : o ≤ 4096) (ha : W64 cls)
    (s0 : -9223372036854775808 ≤ slots ∧ slots ≤ 9223372036854775807) (hb : bs.length ≤ 100000) (hCb : Kd.C (Kd.int .u8) w0 A bs.length bs) (hcb : bs.length ≤ c) (hB0 : Below w0.heap.size w0 w) (hle : w0.heap.size ≤ B)
    (hu0 : 0 ≤ u) (hu1 : u ≤ wd) (hw2 : wd ≤ 1073741824) :
    Calls Try.prog 30 #[.pointer (some ⟨g, 0, none⟩), .int .u64 cls, .int .i64 slots, .slice A bs.length c] w fun e w' => e = .returned (.tuple #[.int .u64 (makeW l o wd u cls slots bs), .int .i64 (makeE l o wd u cls slots bs)]) ∧ HeapO w' g B ok (makeL l o wd u cls slots bs) o wd (makeU l o wd u cls slots bs) ∧ Frm ok w w' := by
  have hg := makeE l o wd u cls slots bs
  unfold makeW makeL makeU
  cases ht : thereP l.length cls with
  | false =>
    have e_ : makeE l o wd u cls slots bs = 61 := by unfold makeE; rw [if_neg (by rw [ht]; decide)]
    rw [e_, if_neg (by decide), if_neg (by decide), if_neg (by decide)]
    clear e_ hg
    have HH := Aside0.mk hO.reads
    have HO := Aside0.mk hO
    have HL := Aside0.mk (show l.length ≤ 5000 by omega)
    have HA := Aside0.mk ha
    have HT := Aside0.mk ht
    clear hfr hO hCb hB0 hle ha ht
    go_enter Try.func30, Try.ntmps30
    go_wp2_with (first | (go_at_call 53; (with_reducible refine (heap_there g cls l o wd u _ (HH.out.below (Drawn0.below (by repeat (first | exact Drawn0.refl _ | apply Drawn0.step)))) HA.out HL.out).mono ?_); rintro e w' ⟨rfl, ⟨nd, rfl⟩⟩; rw [HT.out]))
    go_ret2
    exact ⟨rfl, HO.out.below (Drawn0.below (by repeat (first | exact Drawn0.refl _ | apply Drawn0.step))), Frm.of_below (Drawn0.below (by repeat (first | exact Drawn0.refl _ | apply Drawn0.step)))⟩
  | true =>
    by_cases hs : 0 ≤ slots ∧ slots ≤ 1000 ∧ bs.length ≤ 8000
    · by_cases hf : (l.length : Int) ≠ o ∧ szO (newO cls slots bs) ≤ wd - u
      · have e_ : makeE l o wd u cls slots bs = 0 := by unfold makeE; rw [if_pos ht, if_pos hs, if_pos hf]
        rw [e_, if_pos rfl, if_pos rfl, if_pos rfl]
        exact heap_MakeF_ok g B ok cls slots A c bs l o wd u w0 w hfr hO (by omega) ha ht hs.1 hs.2.1 hs.2.2 hCb hcb hB0 hle hu0 hu1 hw2 hf.1 hf.2
      · have e_ : makeE l o wd u cls slots bs = 60 := by unfold makeE; rw [if_pos ht, if_pos hs, if_neg hf]
        rw [e_, if_neg (by decide), if_neg (by decide), if_neg (by decide)]
        clear e_ hg
        have HZ := Aside0.mk (size_new (cls := cls) hs.1 hs.2.1 hs.2.2)
        have hzz := szO_le (x := newO cls slots bs) (newO_small hs.2.1 hs.2.2)
        obtain ⟨sz, hsz⟩ : ∃ sz, sz = szO (newO cls slots bs) := ⟨_, rfl⟩
        rw [← hsz] at HZ hzz hf
        clear hsz
        have HH := Aside0.mk hO.reads
        have HO := Aside0.mk hO
        have HL := Aside0.mk (show l.length ≤ 5000 by omega)
        have HA := Aside0.mk ha
        have HT := Aside0.mk ht
        have b0 : decide (slots < 0) = false := decide_eq_false (by omega)
        have b1 : decide (1000 < slots) = false := decide_eq_false (by omega)
        have b2 : decide ((8000 : Int) < (bs.length : Int)) = false := decide_eq_false (by omega)
        obtain ⟨v, hbk, hgb, hgb', hS⟩ := hO
        obtain ⟨Av, cv, ev⟩ := Kd.S_slice hS
        subst ev
        have k0 : w.cell? ⟨g, 0, none⟩ = some (.slice Av l.length cv) := (blk_cell hbk 0).trans rfl
        have k1 : w.cell? ⟨g, 1, none⟩ = some (.int .i64 o) := (blk_cell hbk 1).trans rfl
        have k2 : w.cell? ⟨g, 2, none⟩ = some (.int .i64 wd) := (blk_cell hbk 2).trans rfl
        have k3 : w.cell? ⟨g, 3, none⟩ = some (.int .i64 u) := (blk_cell hbk 3).trans rfl
        by_cases hlo : (l.length : Int) = o
        · have b3 : ((l.length : Int) == o) = true := by simpa using hlo
          clear hfr hCb hB0 hle ha ht hbk hgb hgb' hS hf
          go_enter Try.func30, Try.ntmps30
          go_wp2_with (first | (go_at_call 53; (with_reducible refine (heap_there g cls l o wd u _ (HH.out.below (Drawn0.below (by repeat (first | exact Drawn0.refl _ | apply Drawn0.step)))) HA.out HL.out).mono ?_); rintro e w' ⟨rfl, ⟨nd, rfl⟩⟩; rw [HT.out]))
          repeat (go_quiet (first | (go_at_call 51; refine Calls.quiet_of ((heap_size.calls _ _ _ _ HZ.out).mono (fun e w' h => ⟨h.1, h.2.out⟩)))); try go_wp2)
          go_ret2
          exact ⟨rfl, HO.out.below (Drawn0.below (by repeat (first | exact Drawn0.refl _ | apply Drawn0.step))), Frm.of_below (Drawn0.below (by repeat (first | exact Drawn0.refl _ | apply Drawn0.step)))⟩
        · have b3 : ((l.length : Int) == o) = false := by simpa using hlo
          have b4 : decide (wd - u < sz) = true := decide_eq_true (by have : ¬ sz ≤ wd - u := fun h => hf ⟨hlo, h⟩; omega)
          clear hfr hCb hB0 hle ha ht hbk hgb hgb' hS hf
          go_enter Try.func30, Try.ntmps30
          go_wp2_with (first | (go_at_call 53; (with_reducible refine (heap_there g cls l o wd u _ (HH.out.below (Drawn0.below (by repeat (first | exact Drawn0.refl _ | apply Drawn0.step)))) HA.out HL.out).mono ?_); rintro e w' ⟨rfl, ⟨nd, rfl⟩⟩; rw [HT.out]))
          have n0_ := Aside0.mk (HO.out.below (Drawn0.below (show Drawn0 w (w.drewN nd) from ⟨⟨nd, rfl⟩⟩)))
          have n1_ := Aside0.mk (pw_below_drewN (Below.refl w.heap.size w) nd)
          have n2_ := Aside0.mk (HH.out.below n1_.out)
          generalize hw_ : w.drewN nd = w1 at n0_ n1_ n2_ ⊢
          replace k0 : w1.cell? ⟨g, 0, none⟩ = some (.slice Av l.length cv) := (n1_.out.cell (World.block_lt_of_cell? w _ k0)).trans k0
          replace k1 : w1.cell? ⟨g, 1, none⟩ = some (.int .i64 o) := (n1_.out.cell (World.block_lt_of_cell? w _ k1)).trans k1
          replace k2 : w1.cell? ⟨g, 2, none⟩ = some (.int .i64 wd) := (n1_.out.cell (World.block_lt_of_cell? w _ k2)).trans k2
          replace k3 : w1.cell? ⟨g, 3, none⟩ = some (.int .i64 u) := (n1_.out.cell (World.block_lt_of_cell? w _ k3)).trans k3
          clear hw_ HO HH
          have HO := n0_
          have HH := n2_
          have HBB := Aside0.mk (Frm.of_below (ok := ok) n1_.out)
          clear n0_ n1_ n2_
          repeat (go_quiet (first | (go_at_call 51; refine Calls.quiet_of ((heap_size.calls _ _ _ _ HZ.out).mono (fun e w' h => ⟨h.1, h.2.out⟩)))); try go_wp2)
          go_ret2
          exact ⟨rfl, HO.out.below (Drawn0.below (by repeat (first | exact Drawn0.refl _ | apply Drawn0.step))), HBB.out.trans (Frm.of_below (Drawn0.below (by repeat (first | exact Drawn0.refl _ | apply Drawn0.step))))⟩
    · have e_ : makeE l o wd u cls slots bs = 2 := by unfold makeE; rw [if_pos ht, if_neg hs]
      rw [e_, if_neg (by decide), if_neg (by decide), if_neg (by decide)]
      clear e_ hg
      have HH := Aside0.mk hO.reads
      have HO := Aside0.mk hO
      have HL := Aside0.mk (show l.length ≤ 5000 by omega)
      have HA := Aside0.mk ha
      have HT := Aside0.mk ht
      by_cases h1 : slots < 0
      · have b0 : decide (slots < 0) = true := decide_eq_true h1
        clear hfr hO hCb hB0 hle ha ht
        go_enter Try.func30, Try.ntmps30
        go_wp2_with (first | (go_at_call 53; (with_reducible refine (heap_there g cls l o wd u _ (HH.out.below (Drawn0.below (by repeat (first | exact Drawn0.refl _ | apply Drawn0.step)))) HA.out HL.out).mono ?_); rintro e w' ⟨rfl, ⟨nd, rfl⟩⟩; rw [HT.out]))
        go_ret2
        exact ⟨rfl, HO.out.below (Drawn0.below (by repeat (first | exact Drawn0.refl _ | apply Drawn0.step))), Frm.of_below (Drawn0.below (by repeat (first | exact Drawn0.refl _ | apply Drawn0.step)))⟩
      · have b0 : decide (slots < 0) = false := decide_eq_false h1
        by_cases h2 : 1000 < slots
        · have b1 : decide (1000 < slots) = true := decide_eq_true h2
          clear hfr hO hCb hB0 hle ha ht
          go_enter Try.func30, Try.ntmps30
          go_wp2_with (first | (go_at_call 53; (with_reducible refine (heap_there g cls l o wd u _ (HH.out.below (Drawn0.below (by repeat (first | exact Drawn0.refl _ | apply Drawn0.step)))) HA.out HL.out).mono ?_); rintro e w' ⟨rfl, ⟨nd, rfl⟩⟩; rw [HT.out]))
          go_ret2
          exact ⟨rfl, HO.out.below (Drawn0.below (by repeat (first | exact Drawn0.refl _ | apply Drawn0.step))), Frm.of_below (Drawn0.below (by repeat (first | exact Drawn0.refl _ | apply Drawn0.step)))⟩
        · have b1 : decide (1000 < slots) = false := decide_eq_false h2
          have b2 : decide ((8000 : Int) < (bs.length : Int)) = true := decide_eq_true (by omega)
          clear hfr hO hCb hB0 hle ha ht
          go_enter Try.func30, Try.ntmps30
          go_wp2_with (first | (go_at_call 53; (with_reducible refine (heap_there g cls l o wd u _ (HH.out.below (Drawn0.below (by repeat (first | exact Drawn0.refl _ | apply Drawn0.step)))) HA.out HL.out).mono ?_); rintro e w' ⟨rfl, ⟨nd, rfl⟩⟩; rw [HT.out]))
          go_ret2
          exact ⟨rfl, HO.out.below (Drawn0.below (by repeat (first | exact Drawn0.refl _ | apply Drawn0.step))), Frm.of_below (Drawn0.below (by repeat (first | exact Drawn0.refl _ | apply Drawn0.step)))⟩
theorem heap_Make_ok (g B : Nat) (cls slots : Int) (A : Option Addr) (c : Nat) (bs : List Int) (l : List S53) (o wd u : Int) (w0 w : World) (hO : HeapO w g B (fun k => B ≤ k) l o wd u) (hl : l.length ≤ 4999) (ha : W64 cls) (ht : thereP l.length cls = true)
    (s0 : 0 ≤ slots) (s1 : slots ≤ 1000) (hb : bs.length ≤ 8000) (hCb : Kd.C (Kd.int .u8) w0 A bs.length bs) (hcb : bs.length ≤ c) (hB0 : Below w0.heap.size w0 w) (hle : w0.heap.size ≤ B)
    (hu0 : 0 ≤ u) (hu1 : u ≤ wd) (hw2 : wd ≤ 1073741824) (hne : (l.length : Int) ≠ o) (hsz : szO (newO cls slots bs) ≤ wd - u) :
    Calls Try.prog 30 #[.pointer (some ⟨g, 0, none⟩), .int .u64 cls, .int .i64 slots, .slice A bs.length c] w fun e w' => e = .returned (.tuple #[.int .u64 (2 * (l.length : Int)), .int .i64 0]) ∧ HeapO w' g B (fun k => B ≤ k) (l ++ [newO cls slots bs]) o wd (u + szO (newO cls slots bs)) ∧ Below B w w' := by
  have hG : B ≤ w.heap.size := by obtain ⟨_, h1, h2, _⟩ := hO; exact Nat.le_trans h2 (Nat.le_of_lt (blk_lt h1))
  exact (heap_MakeF_ok g B (fun k => B ≤ k) cls slots A c bs l o wd u w0 w (fun k hk => Nat.le_trans hG hk) hO hl ha ht s0 s1 hb hCb hcb hB0 hle hu0 hu1 hw2 hne hsz).mono fun e w' h => ⟨h.1, h.2.1, h.2.2.below hG (fun _ h => h)⟩
end Go.Proofs.Ytiokegmpooildaa.Hp
