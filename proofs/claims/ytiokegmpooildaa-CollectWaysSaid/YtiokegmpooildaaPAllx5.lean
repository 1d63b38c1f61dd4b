-- printed by xprint.py (this session's driver round the kit's print) out of the translation; Lean checks it
import Derived.Test.YtiokegmpooildaaPAllx0
import Derived.Test.YtiokegmpooildaaPAllx3
namespace Go.Proofs.Ytiokegmpooildaa.PAll
open Go.RowKit Go.Proofs.YtiokegmpooildaaW.PrintWords Go.Proofs.YtiokegmpooildaaW.PrintLast Go.Proofs.YtiokegmpooildaaW.PrintMore
attribute [local go_sem] max2_int min2_int max_two min_two max_three min_three max_four min_four   -- for this text's walks alone
set_option linter.unusedVariables false
set_option linter.unusedSimpArgs false

/-! ### monticuleref19_Reached: function 34 -/
mutual
def monticuleref19_Reached.l0 : Nat → List (S53) → List Int → List Bool → Int → Option (List Bool)
  | 0, _, _, _, _ => none
  | k + 1, x0, x1, x5, x6 => if x6 < (x1.length : Int) then (if 0 ≤ x6 then ((monticuleref18_There.f (rd x1 x6) (x0.length : Int)).bind fun t173 => (if t173 ≥ 0 then (if 0 ≤ t173 then (if t173 < (x5.length : Int) then (monticuleref19_Reached.l0 k x0 x1 (x5.set (t173 : Int).toNat true) (wrap64 (x6 + 1))) else (none)) else (none)) else (monticuleref19_Reached.l0 k x0 x1 x5 (wrap64 (x6 + 1))))) else (none)) else (monticuleref19_Reached.l1 k x0 x5 true)
def monticuleref19_Reached.l1 : Nat → List (S53) → List Bool → Bool → Option (List Bool)
  | 0, _, _, _ => none
  | k + 1, x0, x5, x8 => if x8 = true then (monticuleref19_Reached.l2 k x0 x5 false 0) else (some x5)
def monticuleref19_Reached.l2 : Nat → List (S53) → List Bool → Bool → Int → Option (List Bool)
  | 0, _, _, _, _ => none
  | k + 1, x0, x5, x8, x9 => if x9 < (x0.length : Int) then (if 0 ≤ x9 then (if x9 < (x5.length : Int) then (if rdOf false x5 x9 = true then ((some (([(rd_T53 x0 x9).f0] : List Int) : List Int)).bind fun y177 => (if y177.length + ((rd_T53 x0 x9).f1).length < 17592186044416 then (monticuleref19_Reached.l3 k x0 x5 x8 x9 (y177 ++ ((rd_T53 x0 x9).f1)) 0) else (none))) else (monticuleref19_Reached.l2 k x0 x5 x8 (wrap64 (x9 + 1)))) else (none)) else (none)) else (monticuleref19_Reached.l1 k x0 x5 x8)
def monticuleref19_Reached.l3 : Nat → List (S53) → List Bool → Bool → Int → List Int → Int → Option (List Bool)
  | 0, _, _, _, _, _, _ => none
  | k + 1, x0, x5, x8, x9, x10, x11 => if x11 < (x10.length : Int) then (if 0 ≤ x11 then ((monticuleref18_There.f (rd x10 x11) (x0.length : Int)).bind fun t185 => (if t185 ≥ 0 then (if 0 ≤ t185 then (if t185 < (x5.length : Int) then (if rdOf false x5 t185 = true then (monticuleref19_Reached.l3 k x0 x5 x8 x9 x10 (wrap64 (x11 + 1))) else (monticuleref19_Reached.l3 k x0 (x5.set (t185 : Int).toNat true) true x9 x10 (wrap64 (x11 + 1)))) else (none)) else (none)) else (monticuleref19_Reached.l3 k x0 x5 x8 x9 x10 (wrap64 (x11 + 1))))) else (none)) else (monticuleref19_Reached.l2 k x0 x5 x8 (wrap64 (x9 + 1)))
end
def monticuleref19_Reached.f (k : Nat) (l0 : List (S53)) (l1 : List Int) : Option (List Bool) := if 0 ≤ (l0.length : Int) then (if ((l0.length : Int) : Int).toNat ≤ 281474976710656 then ((some (List.replicate ((l0.length : Int) : Int).toNat false : List Bool)).bind fun y168 => (if (l0.length : Int) = 0 then (some y168) else (if 0 < (y168.length : Int) then (monticuleref19_Reached.l0 k l0 l1 (y168.set (0 : Int).toNat true) 0) else (none)))) else (none)) else (none)
theorem monticuleref19_Reached.mono_l : ∀ k, (∀ y0 y1 y2 y3, LeO (monticuleref19_Reached.l0 k y0 y1 y2 y3) (monticuleref19_Reached.l0 (k + 1) y0 y1 y2 y3)) ∧ (∀ y0 y1 y2, LeO (monticuleref19_Reached.l1 k y0 y1 y2) (monticuleref19_Reached.l1 (k + 1) y0 y1 y2)) ∧ (∀ y0 y1 y2 y3, LeO (monticuleref19_Reached.l2 k y0 y1 y2 y3) (monticuleref19_Reached.l2 (k + 1) y0 y1 y2 y3)) ∧ (∀ y0 y1 y2 y3 y4 y5, LeO (monticuleref19_Reached.l3 k y0 y1 y2 y3 y4 y5) (monticuleref19_Reached.l3 (k + 1) y0 y1 y2 y3 y4 y5))
  | 0 => ⟨fun _ _ _ _ r h => by simp [monticuleref19_Reached.l0] at h, fun _ _ _ r h => by simp [monticuleref19_Reached.l1] at h, fun _ _ _ _ r h => by simp [monticuleref19_Reached.l2] at h, fun _ _ _ _ _ _ r h => by simp [monticuleref19_Reached.l3] at h⟩
  | k + 1 => by
    obtain ⟨ih0, ih1, ih2, ih3⟩ := monticuleref19_Reached.mono_l k
    refine ⟨?_, ?_, ?_, ?_⟩
    · intro y0 y1 y2 y3
      unfold monticuleref19_Reached.l0
      repeat' first
      | (with_reducible exact ih0 _ _ _ _)
      | (with_reducible exact ih1 _ _ _)
      | (with_reducible exact ih2 _ _ _ _)
      | (with_reducible exact ih3 _ _ _ _ _ _)
      | (with_reducible exact LeO.refl _)
      | (with_reducible exact LeO.none _)
      | (with_reducible refine LeO.ite ?_ ?_)
      | (with_reducible refine LeO.bind ?_ (fun _ => ?_))
      | exact ih0 _ _ _ _
      | exact ih1 _ _ _
      | exact ih2 _ _ _ _
      | exact ih3 _ _ _ _ _ _
      | exact LeO.none _
      | refine LeO.ite ?_ ?_
      | refine LeO.bind ?_ (fun _ => ?_)
    · intro y0 y1 y2
      unfold monticuleref19_Reached.l1
      repeat' first
      | (with_reducible exact ih0 _ _ _ _)
      | (with_reducible exact ih1 _ _ _)
      | (with_reducible exact ih2 _ _ _ _)
      | (with_reducible exact ih3 _ _ _ _ _ _)
      | (with_reducible exact LeO.refl _)
      | (with_reducible exact LeO.none _)
      | (with_reducible refine LeO.ite ?_ ?_)
      | (with_reducible refine LeO.bind ?_ (fun _ => ?_))
      | exact ih0 _ _ _ _
      | exact ih1 _ _ _
      | exact ih2 _ _ _ _
      | exact ih3 _ _ _ _ _ _
      | exact LeO.none _
      | refine LeO.ite ?_ ?_
      | refine LeO.bind ?_ (fun _ => ?_)
    · intro y0 y1 y2 y3
      unfold monticuleref19_Reached.l2
      repeat' first
      | (with_reducible exact ih0 _ _ _ _)
      | (with_reducible exact ih1 _ _ _)
      | (with_reducible exact ih2 _ _ _ _)
      | (with_reducible exact ih3 _ _ _ _ _ _)
      | (with_reducible exact LeO.refl _)
      | (with_reducible exact LeO.none _)
      | (with_reducible refine LeO.ite ?_ ?_)
      | (with_reducible refine LeO.bind ?_ (fun _ => ?_))
      | exact ih0 _ _ _ _
      | exact ih1 _ _ _
      | exact ih2 _ _ _ _
      | exact ih3 _ _ _ _ _ _
      | exact LeO.none _
      | refine LeO.ite ?_ ?_
      | refine LeO.bind ?_ (fun _ => ?_)
    · intro y0 y1 y2 y3 y4 y5
      unfold monticuleref19_Reached.l3
      repeat' first
      | (with_reducible exact ih0 _ _ _ _)
      | (with_reducible exact ih1 _ _ _)
      | (with_reducible exact ih2 _ _ _ _)
      | (with_reducible exact ih3 _ _ _ _ _ _)
      | (with_reducible exact LeO.refl _)
      | (with_reducible exact LeO.none _)
      | (with_reducible refine LeO.ite ?_ ?_)
      | (with_reducible refine LeO.bind ?_ (fun _ => ?_))
      | exact ih0 _ _ _ _
      | exact ih1 _ _ _
      | exact ih2 _ _ _ _
      | exact ih3 _ _ _ _ _ _
      | exact LeO.none _
      | refine LeO.ite ?_ ?_
      | refine LeO.bind ?_ (fun _ => ?_)
theorem monticuleref19_Reached.mono : ∀ a0 a1 k, LeO (monticuleref19_Reached.f k a0 a1) (monticuleref19_Reached.f (k + 1) a0 a1) := by
  intro a0 a1 k
  obtain ⟨ih0, ih1, ih2, ih3⟩ := monticuleref19_Reached.mono_l k
  unfold monticuleref19_Reached.f
  repeat' first
      | (with_reducible exact ih0 _ _ _ _)
      | (with_reducible exact ih1 _ _ _)
      | (with_reducible exact ih2 _ _ _ _)
      | (with_reducible exact ih3 _ _ _ _ _ _)
      | (with_reducible exact LeO.refl _)
      | (with_reducible exact LeO.none _)
      | (with_reducible refine LeO.ite ?_ ?_)
      | (with_reducible refine LeO.bind ?_ (fun _ => ?_))
      | exact ih0 _ _ _ _
      | exact ih1 _ _ _
      | exact ih2 _ _ _ _
      | exact ih3 _ _ _ _ _ _
      | exact LeO.none _
      | refine LeO.ite ?_ ?_
      | refine LeO.bind ?_ (fun _ => ?_)
def monticuleref19_Reached.T18 : Bool × List (List Nat × List Nat) := (true, [([], []), ([], []), ([0, 1], [0, 1]), ([2], [2]), ([3], [3]), ([4], [4]), ([], []), ([], []), ([6, 7], [6, 7]), ([8], [8]), ([9], [9]), ([5, 10], [5, 10]), ([11, 11, 0, 1, 2, 3, 4, 5, 6, 7, 8, 9, 10, 11], [11])])
def monticuleref19_Reached.B18 : List Nat := [0, 0, 3, 7, 15, 31, 0, 0, 192, 448, 960, 2047, 4095]
theorem monticuleref19_Reached.tab18 : rtab .any (opsOf Try.f34 18) = monticuleref19_Reached.T18 := by kernel_rfl
theorem monticuleref19_Reached.bits18 : waitsOk monticuleref19_Reached.T18.2 monticuleref19_Reached.B18 = true := by kernel_rfl
set_option maxHeartbeats 8000000 in
set_option maxRecDepth 100000 in
theorem monticuleref19_Reached.calls (k : Nat) (A0 : Option Addr) (c0 : Nat) (l0 : List (S53)) (A1 : Option Addr) (c1 : Nat) (l1 : List Int) (r : List Bool) (w : World) (hr0 : Kd.C k53 w A0 l0.length l0) (hc0 : l0.length ≤ c0) (hr1 : Kd.C (Kd.int .u64) w A1 l1.length l1) (hc1 : l1.length ≤ c1) (h : monticuleref19_Reached.f k l0 l1 = some r) :
    Calls Try.prog 34 #[.slice A0 l0.length c0, .slice A1 l1.length c1] w fun e w' => ∃ v0_ : Value, e = .returned (v0_) ∧ Kd.R Kd.bool 4 w' w.heap.size (fun _ => True) v0_ r ∧ Below w.heap.size w w' := by
  have HR0 := Aside0.mk hr0
  have HC0 := Aside0.mk hc0
  clear hr0 hc0
  have HR1 := Aside0.mk hr1
  have HC1 := Aside0.mk hc1
  clear hr1 hc1
  have HB := Aside0.mk (Below.refl w.heap.size w)
  have H : (if 0 ≤ (l0.length : Int) then (if ((l0.length : Int) : Int).toNat ≤ 281474976710656 then ((some (List.replicate ((l0.length : Int) : Int).toNat false : List Bool)).bind fun y168 => (if (l0.length : Int) = 0 then (some y168) else (if 0 < (y168.length : Int) then (monticuleref19_Reached.l0 k l0 l1 (y168.set (0 : Int).toNat true) 0) else (none)))) else (none)) else (none)) = some r := h
  clear h
  by_cases c3 : 0 ≤ (l0.length : Int)
  · rw [if_pos c3] at H
    have c3b0 := eq_true c3
    have c3b1 : decide (0 ≤ (l0.length : Int)) = true := decide_eq_true c3
    clear c3
    by_cases c4 : ((l0.length : Int) : Int).toNat ≤ 281474976710656
    · rw [if_pos c4] at H
      have c4b0 := eq_true c4
      have c4b1 : decide (((l0.length : Int) : Int).toNat ≤ 281474976710656) = true := decide_eq_true c4
      clear c4
      obtain ⟨y168, hy168⟩ : ∃ y_ : List Bool, y_ = (List.replicate ((l0.length : Int) : Int).toNat false) := ⟨_, rfl⟩
      replace H : (if (l0.length : Int) = 0 then (some y168) else (if 0 < (y168.length : Int) then (monticuleref19_Reached.l0 k l0 l1 (y168.set (0 : Int).toNat true) 0) else (none))) = some r := by first | (rw [hy168]; with_reducible exact H) | (have H2_ := (Option.bind_some _ _).symm.trans H; rw [hy168]; with_reducible exact H2_) | (have H2_ := (Option.bind_some _ _).symm.trans H; with_reducible exact H2_) | with_reducible exact H | (rw [hy168]; exact H) | exact H
      have Ny168 := Aside0.mk hy168
      clear hy168
      by_cases c5 : (l0.length : Int) = 0
      · rw [if_pos c5] at H
        have c5b0 : ((l0.length : Int) == 0) = true := beq_iff_eq.mpr c5
        have c5b1 : ((l0.length : Int) != 0) = false := bne_eq_false_iff_eq.mpr c5
        clear c5
        obtain rfl := Option.some.inj H
        go_enter Try.func34, Try.ntmps34
        go_wp2_with (first | ((with_reducible refine gate_dst (N := 15) rfl ?_); refine Kd.R_make Kd.bool _ 4 rfl (N := 15) rfl 63 _ _ rfl (l0.length : Int) rfl rfl Try.underlying63 (.bool false) 1 info4 rfl (by decide) (by omega) false (ok := fun _ => True) (okp := fun _ => True) rfl (fun _ hk => hk) trivial (of_decide_eq_true (by first | (with_reducible assumption) | assumption)) (Nat.le_trans (Nat.mul_le_mul_right _ (of_decide_eq_true (by first | (with_reducible assumption) | assumption) : (l0.length : Int).toNat ≤ 281474976710656)) (by omega)) (Below.refl _ _) (Nat.le_refl _) ?_; intro v169 w6 ho7 hb hg_ hnew_; clear hg_ hnew_; (first | rw [← Ny168.out] at ho7 | (simp only [Int.reduceToNat] at ho7; rw [← Ny168.out] at ho7)); have n0_ := Aside0.mk (Kd.R_lower ho7 (below_size (by repeat (first | (with_reducible first | exact HB.out | apply below_alloc | apply pw_below_drewN | apply below_drew1) | exact HB.out)))); have n1_ := Aside0.mk (below_step (by repeat (first | (with_reducible first | exact HB.out | apply below_alloc | apply pw_below_drewN | apply below_drew1) | exact HB.out)) hb); clear HB; have HO170 := n0_; have HB := n1_; clear n0_ n1_; clear hb ho7))
        go_ret
        exact ⟨_, by first | rfl | (simp [errW_none, errW_some] <;> rfl) | (simp [*, errW_none, errW_some] <;> rfl), by (with_reducible repeat (first | apply Kd.R_alloc | apply Kd.R_drewN | apply Kd.R_drew)); exact HO170.out, by repeat (first | (with_reducible first | exact HB.out | apply below_alloc | apply pw_below_drewN | apply below_drew1) | exact HB.out)⟩
      · rw [if_neg c5] at H
        have c5b0 : ((l0.length : Int) == 0) = false := beq_eq_false_iff_ne.mpr c5
        have c5b1 : ((l0.length : Int) != 0) = true := bne_iff_ne.mpr c5
        have c5b2 : ¬ (l0 = []) := fun h_ => c5 (by rw [h_]; rfl)
        by_cases c8 : 0 < (y168.length : Int)
        · rw [if_pos c8] at H
          have c8b0 : decide (0 < (y168.length : Int)) = true := decide_eq_true c8
          have c8b1 : decide (0 < y168.length) = true := decide_eq_true (by omega)
          clear c8
          obtain ⟨y171, hy171⟩ : ∃ y_ : List Bool, y_ = (y168.set (0 : Int).toNat true) := ⟨_, rfl⟩
          replace H : (monticuleref19_Reached.l0 k l0 l1 y171 0) = some r := by first | (rw [hy171]; with_reducible exact H) | (have H2_ := (Option.bind_some _ _).symm.trans H; rw [hy171]; with_reducible exact H2_) | (have H2_ := (Option.bind_some _ _).symm.trans H; with_reducible exact H2_) | with_reducible exact H | (rw [hy171]; exact H) | exact H
          have Ny171 := Aside0.mk hy171
          clear hy171
          have H' := Aside0.mk H
          clear H
          go_enter Try.func34, Try.ntmps34
          go_wp2_with (first | ((with_reducible refine gate_dst (N := 15) rfl ?_); refine Kd.R_make Kd.bool _ 4 rfl (N := 15) rfl 63 _ _ rfl (l0.length : Int) rfl rfl Try.underlying63 (.bool false) 1 info4 rfl (by decide) (by omega) false (ok := fun _ => True) (okp := fun _ => True) rfl (fun _ hk => hk) trivial (of_decide_eq_true (by first | (with_reducible assumption) | assumption)) (Nat.le_trans (Nat.mul_le_mul_right _ (of_decide_eq_true (by first | (with_reducible assumption) | assumption) : (l0.length : Int).toNat ≤ 281474976710656)) (by omega)) (Below.refl _ _) (Nat.le_refl _) ?_; intro v169 w10 ho11 hb hg_ hnew_; clear hg_ hnew_; (first | rw [← Ny168.out] at ho11 | (simp only [Int.reduceToNat] at ho11; rw [← Ny168.out] at ho11)); have n0_ := Aside0.mk (Kd.R_lower ho11 (below_size (by repeat (first | (with_reducible first | exact HB.out | apply below_alloc | apply pw_below_drewN | apply below_drew1) | exact HB.out)))); have n1_ := Aside0.mk (below_step (by repeat (first | (with_reducible first | exact HB.out | apply below_alloc | apply pw_below_drewN | apply below_drew1) | exact HB.out)) hb); clear HB; have HO170 := n0_; have HB := n1_; clear n0_ n1_; clear hb ho11; have p9 : 0 ≤ (0 : Int) := (by omega); have q9 : (0 : Int) < ((y168.length : Int) : Int) := of_decide_eq_true (by first | (with_reducible assumption) | assumption); have qi9 : (0 < y168.length) = True := eq_true (by omega); obtain ⟨go9, co9, eo9, gb9, gl9, cl9, HG9⟩ := Kd.R_form HO170.out (by omega); (first | cases eo9 | (injection eo9 with ea_ en_ ec_; (first | subst ea_ | (injection ea_ with ea_; subst ea_)); subst ec_; clear en_)); have GB9 := Aside0.mk gb9; have GG9 := Aside0.mk HG9; clear gb9 gl9 HG9; obtain ⟨hx9_0, hf9_0⟩ := Kd.R_celln false HO170.out (0 : Int) p9 q9; (try rw [show ((0 : Int)).toNat = 0 from rfl] at hx9_0); (try simp only [Nat.reduceMul, Nat.zero_mul, Nat.zero_add, Nat.reduceAdd] at hx9_0); (try rw [show ((0 : Int)).toNat = 0 from rfl] at hf9_0); (try simp only [Nat.reduceMul, Nat.zero_mul, Nat.zero_add, Nat.reduceAdd] at hf9_0); replace p9 := eq_true p9; replace q9 := eq_true q9; obtain ⟨hy12_, hz12_⟩ := Kd.R_celln false HO170.out (0 : Int) (by omega) (of_decide_eq_true (by first | (with_reducible assumption) | assumption)); (try simp only [Int.reduceToNat, Int.toNat_zero, Int.toNat_ofNat, Nat.reduceMul, Nat.zero_mul, Nat.zero_add] at hy12_ hz12_); (try rw [show ((0 : Int)).toNat = 0 from rfl] at hy12_); (try rw [show ((0 : Int)).toNat = 0 from rfl] at hz12_); have HP12 := Kd.R_putg HO170.out (0 : Int) true) | ((with_reducible refine gate_store (t := 4) (p := 21) rfl ?_); refine store_event (t := 4) (p := 21) (v := ?vo_w13) (w1 := (w10.setCell ⟨go9, (0 : Int).toNat, none⟩ (.bool true))) ?hg ?ho ?hn ?hr ?_; (case ho => rfl); (case hg => rfl); (case hn => rfl); (case hr => first | (go_simp; done) | (go_simp; rfl)); intro w13 hw; have hg : w10.grownBy w13 (some go9) := (by rw [hw]; exact HP12.2); have hp_ : Kd.R Kd.bool 4 w13 w.heap.size (fun _ => True) (.slice (some ⟨go9, 0, none⟩) y168.length co9) y171 := (by rw [hw, Ny171.out]; exact HP12.1); clear HP12; have n0_ := Aside0.mk (hp_); have n1_ := Aside0.mk ((by rw [hw]; exact below_set (HB.out) GB9.out : Below w.heap.size w w13)); clear HO170; clear HB; have HO170 := n0_; have HB := n1_; clear n0_ n1_; clear hg hw hp_))
          go_loopg [6] k (fun kq v6 w' => ∃ (x5_1 : List Bool) (x6_1 : Int), v6 = .int .i64 x6_1 ∧ Aside0 (monticuleref19_Reached.l0 kq l0 l1 x5_1 x6_1 = some r) ∧ Aside0 (kq ≤ k) ∧ Aside0 (Kd.R Kd.bool 4 w' w.heap.size (fun _ => True) (.slice (some ⟨go9, 0, none⟩) y168.length co9) x5_1) ∧ Aside0 (Below w.heap.size w w'))
          case atStart => exact ⟨(y171), (0), (by first | rfl | (simp; done) | (simp [*]; done)), H', ⟨Nat.le_refl _⟩, ⟨by (with_reducible repeat (first | apply Kd.R_alloc | apply Kd.R_drewN | apply Kd.R_drew)); exact HO170.out⟩, ⟨by repeat (first | (with_reducible first | exact HB.out | apply below_alloc | apply pw_below_drewN | apply below_drew1) | exact HB.out)⟩⟩
          case round =>
            clear H'
            try clear c1
            try clear p2
            try clear c3
            try clear c3b0
            try clear c3b1
            try clear c4
            try clear c4b0
            try clear c4b1
            try clear c5
            try clear c5b0
            try clear c5b1
            try clear c5b2
            try clear c8
            try clear c8b0
            try clear c8b1
            try clear p9
            try clear q9
            try clear hx9
            try clear qi9
            try clear hf9
            try clear hx9_0
            try clear p9
            try clear q9
            obtain ⟨x5_1, x6_1, rfl, HA, HK1, HO_5, HB⟩ := hrel
            have hl5_1 := (Kd.R_reads' HO_5.out).1
            rw [hl5_1] at HO_5
            (try simp only [hl5_1])
            cases gk with
            | zero => exact absurd HA.out (by simp [monticuleref19_Reached.l0])
            | succ k1 =>
              have H := HA.out
              clear HA
              simp only [monticuleref19_Reached.l0] at H
              by_cases c14 : x6_1 < (l1.length : Int)
              · rw [if_pos c14] at H
                have c14b0 : decide (x6_1 < (l1.length : Int)) = true := decide_eq_true c14
                clear c14
                by_cases c15 : 0 ≤ x6_1
                · rw [if_pos c15] at H
                  have c15b0 : decide (0 ≤ x6_1) = true := decide_eq_true c15
                  clear c15
                  replace H := Option.bind_eq_some_iff.mp H
                  obtain ⟨t173, A160, H⟩ := H
                  replace H : (if t173 ≥ 0 then (if 0 ≤ t173 then (if t173 < (x5_1.length : Int) then (monticuleref19_Reached.l0 k1 l0 l1 (x5_1.set (t173 : Int).toNat true) (wrap64 (x6_1 + 1))) else (none)) else (none)) else (monticuleref19_Reached.l0 k1 l0 l1 x5_1 (wrap64 (x6_1 + 1)))) = some r := H
                  have A16 := Aside0.mk A160
                  clear A160
                  by_cases c17 : t173 ≥ 0
                  · rw [if_pos c17] at H
                    have c17b0 : decide (0 ≤ t173) = true := decide_eq_true c17
                    clear c17
                    by_cases c18 : 0 ≤ t173
                    · rw [if_pos c18] at H
                      have c18b0 : decide (0 ≤ t173) = true := decide_eq_true c18
                      clear c18
                      by_cases c19 : t173 < (x5_1.length : Int)
                      · rw [if_pos c19] at H
                        have c19b0 : decide (t173 < (x5_1.length : Int)) = true := decide_eq_true c19
                        clear c19
                        obtain ⟨y174, hy174⟩ : ∃ y_ : List Bool, y_ = (x5_1.set (t173 : Int).toNat true) := ⟨_, rfl⟩
                        replace H : (monticuleref19_Reached.l0 k1 l0 l1 y174 (wrap64 (x6_1 + 1))) = some r := by first | (rw [hy174]; with_reducible exact H) | (have H2_ := (Option.bind_some _ _).symm.trans H; rw [hy174]; with_reducible exact H2_) | (have H2_ := (Option.bind_some _ _).symm.trans H; with_reducible exact H2_) | with_reducible exact H | (rw [hy174]; exact H) | exact H
                        have Ny174 := Aside0.mk hy174
                        clear hy174
                        have H' := Aside0.mk H
                        clear H
                        have p172 : 0 ≤ (x6_1 : Int) := of_decide_eq_true (by first | (with_reducible assumption) | assumption)
                        have q172 : x6_1 < (l1.length : Int) := of_decide_eq_true (by first | (with_reducible assumption) | assumption)
                        obtain ⟨ad172, e172, hx172_0⟩ := Kd.at_int HR1.out x6_1 p172 q172
                        cases e172
                        replace hx172_0 := (HB.out.cell (World.block_lt_of_cell? w _ hx172_0)).trans hx172_0
                        replace p172 := eq_true p172
                        replace q172 := eq_true q172
                        go_wp2_with (first | ((with_reducible refine gate_callee (f := 41) rfl ?_); refine goesL_ (some 34) rfl rfl Try.func41 (by kernel_rfl) rfl #[.int .u64 (rd l1 x6_1), .int .i64 (l0.length : Int)] rfl (by (try simp only [List.map_toArray, List.map_cons, List.map_nil]); first | done | rfl | (simp only [List.length_drop, List.length_take]; rfl)) ?_; (with_reducible refine (monticuleref18_There.calls (rd l1 x6_1) (l0.length : Int) t173 _ A16.out).mono ?_); rintro e w' ⟨rfl, ⟨nd, rfl⟩⟩; refine ⟨_, rfl, ?_⟩; (try (rw [drewN_self wr]; generalize hq_ : World.drewN wr _ = wr; have n0_ : Aside0 (Kd.R Kd.bool 4 wr w.heap.size (fun _ => True) (.slice (some ⟨go9, 0, none⟩) x5_1.length co9) x5_1) := ⟨by rw [← hq_]; exact (by (with_reducible repeat (first | apply Kd.R_alloc | apply Kd.R_drewN | apply Kd.R_drew)); exact HO_5.out)⟩; have n1_ : Aside0 (Below w.heap.size w wr) := ⟨by rw [← hq_]; exact (by repeat (first | (with_reducible first | exact HB.out | apply below_alloc | apply pw_below_drewN | apply below_drew1) | exact HB.out))⟩; clear HO_5 HB hq_; have HO_5 := n0_; have HB := n1_; clear n0_ n1_)); have p20 : 0 ≤ (t173 : Int) := of_decide_eq_true (by first | (with_reducible assumption) | assumption); have q20 : (t173 : Int) < ((x5_1.length : Int) : Int) := of_decide_eq_true (by first | (with_reducible assumption) | assumption); obtain ⟨hx20_0, hf20_0⟩ := Kd.R_celln false HO_5.out (t173 : Int) p20 q20; replace p20 := eq_true p20; replace q20 := eq_true q20; obtain ⟨hy21_, hz21_⟩ := Kd.R_celln false HO_5.out (t173 : Int) (of_decide_eq_true (by first | (with_reducible assumption) | assumption)) (of_decide_eq_true (by first | (with_reducible assumption) | assumption)); have HP21 := Kd.R_putg HO_5.out (t173 : Int) true) | ((with_reducible refine gate_store (t := 4) (p := 39) rfl ?_); refine store_event (t := 4) (p := 39) (v := ?vo_w22) (w1 := (wr.setCell ⟨go9, (t173 : Int).toNat, none⟩ (.bool true))) ?hg ?ho ?hn ?hr ?_; (case ho => rfl); (case hg => rfl); (case hn => rfl); (case hr => first | (go_simp; done) | (go_simp; rfl)); intro w22 hw; have hg : wr.grownBy w22 (some go9) := (by rw [hw]; exact HP21.2); have hp_ : Kd.R Kd.bool 4 w22 w.heap.size (fun _ => True) (.slice (some ⟨go9, 0, none⟩) x5_1.length co9) y174 := (by rw [hw, Ny174.out]; exact HP21.1); clear HP21; have n0_ := Aside0.mk (hp_); have n1_ := Aside0.mk ((by rw [hw]; exact below_set (HB.out) GB9.out : Below w.heap.size w w22)); clear HO_5; clear HB; have HO_5 := n0_; have HB := n1_; clear n0_ n1_; clear hg hw hp_))
                        (try simp only [← hl5_1])
                        go_roundg k1
                        case measure => have := HK1.out; omega
                        case rel => exact ⟨(y174), (wrap64 (x6_1 + 1)), (by first | rfl | (simp; done) | (simp [*]; done)), H', ⟨by have := HK1.out; omega⟩, ⟨by (try simp only [hl5_1]); (with_reducible repeat (first | apply Kd.R_alloc | apply Kd.R_drewN | apply Kd.R_drew)); exact HO_5.out⟩, ⟨by repeat (first | (with_reducible first | exact HB.out | apply below_alloc | apply pw_below_drewN | apply below_drew1) | exact HB.out)⟩⟩
                      · rw [if_neg c19] at H
                        exact absurd H (by simp)
                    · rw [if_neg c18] at H
                      exact absurd H (by simp)
                  · rw [if_neg c17] at H
                    have c17b0 : decide (0 ≤ t173) = false := decide_eq_false c17
                    clear c17
                    have H' := Aside0.mk H
                    clear H
                    have p172 : 0 ≤ (x6_1 : Int) := of_decide_eq_true (by first | (with_reducible assumption) | assumption)
                    have q172 : x6_1 < (l1.length : Int) := of_decide_eq_true (by first | (with_reducible assumption) | assumption)
                    obtain ⟨ad172, e172, hx172_0⟩ := Kd.at_int HR1.out x6_1 p172 q172
                    cases e172
                    replace hx172_0 := (HB.out.cell (World.block_lt_of_cell? w _ hx172_0)).trans hx172_0
                    replace p172 := eq_true p172
                    replace q172 := eq_true q172
                    go_wp2_with (first | ((with_reducible refine gate_callee (f := 41) rfl ?_); refine goesL_ (some 34) rfl rfl Try.func41 (by kernel_rfl) rfl #[.int .u64 (rd l1 x6_1), .int .i64 (l0.length : Int)] rfl (by (try simp only [List.map_toArray, List.map_cons, List.map_nil]); first | done | rfl | (simp only [List.length_drop, List.length_take]; rfl)) ?_; (with_reducible refine (monticuleref18_There.calls (rd l1 x6_1) (l0.length : Int) t173 _ A16.out).mono ?_); rintro e w' ⟨rfl, ⟨nd, rfl⟩⟩; refine ⟨_, rfl, ?_⟩))
                    (try simp only [← hl5_1])
                    go_roundg k1
                    case measure => have := HK1.out; omega
                    case rel => exact ⟨(x5_1), (wrap64 (x6_1 + 1)), (by first | rfl | (simp; done) | (simp [*]; done)), H', ⟨by have := HK1.out; omega⟩, ⟨by (try simp only [hl5_1]); (with_reducible repeat (first | apply Kd.R_alloc | apply Kd.R_drewN | apply Kd.R_drew)); exact HO_5.out⟩, ⟨by repeat (first | (with_reducible first | exact HB.out | apply below_alloc | apply pw_below_drewN | apply below_drew1) | exact HB.out)⟩⟩
                · rw [if_neg c15] at H
                  exact absurd H (by simp)
              · rw [if_neg c14] at H
                have c14b0 : decide (x6_1 < (l1.length : Int)) = false := decide_eq_false c14
                clear c14
                have H' := Aside0.mk H
                clear H
                go_wp2
                go_loopg [8] k1 (fun kq v8 w' => ∃ (x5_2 : List Bool) (x8_2 : Bool), v8 = .bool x8_2 ∧ Aside0 (monticuleref19_Reached.l1 kq l0 x5_2 x8_2 = some r) ∧ Aside0 (kq ≤ k1) ∧ Aside0 (Kd.R Kd.bool 4 w' w.heap.size (fun _ => True) (.slice (some ⟨go9, 0, none⟩) x5_1.length co9) x5_2) ∧ Aside0 (Below w.heap.size w w'))
                case atStart => exact ⟨(x5_1), (true), (by first | rfl | (simp; done) | (simp [*]; done)), H', ⟨Nat.le_refl _⟩, ⟨by (try simp only [hl5_1]); (with_reducible repeat (first | apply Kd.R_alloc | apply Kd.R_drewN | apply Kd.R_drew)); exact HO_5.out⟩, ⟨by repeat (first | (with_reducible first | exact HB.out | apply below_alloc | apply pw_below_drewN | apply below_drew1) | exact HB.out)⟩⟩
                case round =>
                  clear H'
                  try clear c1
                  try clear p1
                  try clear q1
                  try clear hx1
                  try clear p2
                  try clear q2
                  try clear hx2
                  try clear hf2
                  try clear c3
                  try clear c3b0
                  try clear c3b1
                  try clear c4
                  try clear c4b0
                  try clear c4b1
                  try clear c5
                  try clear c5b0
                  try clear c5b1
                  try clear c5b2
                  try clear p6
                  try clear c8
                  try clear c8b0
                  try clear c8b1
                  try clear p9
                  try clear q9
                  try clear hx9
                  try clear qi9
                  try clear hf9
                  try clear c14
                  try clear c14b0
                  try clear c15
                  try clear c15b0
                  try clear c17
                  try clear c17b0
                  try clear p17
                  try clear q17
                  try clear hx17
                  try clear c18
                  try clear c18b0
                  try clear c19
                  try clear c19b0
                  try clear p20
                  try clear q20
                  try clear hx20
                  try clear hf20
                  try clear hx172_0
                  try clear hx20_0
                  try clear hx9_0
                  try clear p172
                  try clear p2
                  try clear p20
                  try clear p9
                  try clear q172
                  try clear q20
                  try clear q9
                  obtain ⟨x5_2, x8_2, rfl, HA, HK2, HO_5, HB⟩ := hrel
                  have hl5_2 := (Kd.R_reads' HO_5.out).1
                  rw [hl5_2] at HO_5
                  (try simp only [hl5_2])
                  cases gk with
                  | zero => exact absurd HA.out (by simp [monticuleref19_Reached.l1])
                  | succ k2 =>
                    have H := HA.out
                    clear HA
                    simp only [monticuleref19_Reached.l1] at H
                    by_cases c23 : x8_2 = true
                    · subst c23
                      have H1 : (monticuleref19_Reached.l2 k2 l0 x5_2 false 0) = some r := by rw [if_pos rfl] at H; exact H
                      clear H
                      have H := H1
                      clear H1
                      have H' := Aside0.mk H
                      clear H
                      go_wp2
                      go_loopg [8, 9] k2 (fun kq v8 v9 w' => ∃ (x5_3 : List Bool) (x8_3 : Bool) (x9_3 : Int), v8 = .bool x8_3 ∧ v9 = .int .i64 x9_3 ∧ Aside0 (monticuleref19_Reached.l2 kq l0 x5_3 x8_3 x9_3 = some r) ∧ Aside0 (kq ≤ k2) ∧ Aside0 (Kd.R Kd.bool 4 w' w.heap.size (fun _ => True) (.slice (some ⟨go9, 0, none⟩) x5_2.length co9) x5_3) ∧ Aside0 (Below w.heap.size w w'))
                      case atStart => exact ⟨(x5_2), (false), (0), (by first | rfl | (simp; done) | (simp [*]; done)), (by first | rfl | (simp; done) | (simp [*]; done)), H', ⟨Nat.le_refl _⟩, ⟨by (try simp only [hl5_1]); (try simp only [hl5_2]); (with_reducible repeat (first | apply Kd.R_alloc | apply Kd.R_drewN | apply Kd.R_drew)); exact HO_5.out⟩, ⟨by repeat (first | (with_reducible first | exact HB.out | apply below_alloc | apply pw_below_drewN | apply below_drew1) | exact HB.out)⟩⟩
                      case round =>
                        clear H'
                        try clear c1
                        try clear p1
                        try clear q1
                        try clear hx1
                        try clear c2
                        try clear p2
                        try clear q2
                        try clear hx2
                        try clear hf2
                        try clear c3
                        try clear c3b0
                        try clear c3b1
                        try clear c4
                        try clear c4b0
                        try clear c4b1
                        try clear c5
                        try clear c5b0
                        try clear c5b1
                        try clear c5b2
                        try clear p6
                        try clear c8
                        try clear c8b0
                        try clear c8b1
                        try clear p9
                        try clear q9
                        try clear hx9
                        try clear qi9
                        try clear hf9
                        try clear c14
                        try clear c14b0
                        try clear c15
                        try clear c15b0
                        try clear c17
                        try clear c17b0
                        try clear p17
                        try clear q17
                        try clear hx17
                        try clear c18
                        try clear c18b0
                        try clear c19
                        try clear c19b0
                        try clear p20
                        try clear q20
                        try clear hx20
                        try clear hf20
                        try clear c23
                        try clear hx172_0
                        try clear hx20_0
                        try clear hx9_0
                        try clear p1
                        try clear p17
                        try clear p172
                        try clear p2
                        try clear p20
                        try clear p6
                        try clear p9
                        try clear q1
                        try clear q17
                        try clear q172
                        try clear q2
                        try clear q20
                        try clear q9
                        obtain ⟨x5_3, x8_3, x9_3, rfl, rfl, HA, HK3, HO_5, HB⟩ := hrel
                        have hl5_3 := (Kd.R_reads' HO_5.out).1
                        rw [hl5_3] at HO_5
                        (try simp only [hl5_3])
                        cases gk with
                        | zero => exact absurd HA.out (by simp [monticuleref19_Reached.l2])
                        | succ k3 =>
                          have H := HA.out
                          clear HA
                          simp only [monticuleref19_Reached.l2] at H
                          by_cases c24 : x9_3 < (l0.length : Int)
                          · rw [if_pos c24] at H
                            have c24b0 : decide (x9_3 < (l0.length : Int)) = true := decide_eq_true c24
                            clear c24
                            by_cases c25 : 0 ≤ x9_3
                            · rw [if_pos c25] at H
                              have c25b0 : decide (0 ≤ x9_3) = true := decide_eq_true c25
                              clear c25
                              by_cases c26 : x9_3 < (x5_3.length : Int)
                              · rw [if_pos c26] at H
                                have c26b0 : decide (x9_3 < (x5_3.length : Int)) = true := decide_eq_true c26
                                clear c26
                                obtain ⟨bq27, hbq27⟩ : ∃ b_ : Bool, b_ = (rdOf false x5_3 x9_3) := ⟨_, rfl⟩
                                replace H : (if bq27 = true then ((some (([(rd_T53 l0 x9_3).f0] : List Int) : List Int)).bind fun y177 => (if y177.length + ((rd_T53 l0 x9_3).f1).length < 17592186044416 then (monticuleref19_Reached.l3 k3 l0 x5_3 x8_3 x9_3 (y177 ++ ((rd_T53 l0 x9_3).f1)) 0) else (none))) else (monticuleref19_Reached.l2 k3 l0 x5_3 x8_3 (wrap64 (x9_3 + 1)))) = some r := by rw [← hbq27] at H; exact H
                                have Nbq27 := Aside0.mk hbq27
                                clear hbq27
                                by_cases c28 : bq27 = true
                                · subst c28
                                  have H1 : ((some (([(rd_T53 l0 x9_3).f0] : List Int) : List Int)).bind fun y177 => (if y177.length + ((rd_T53 l0 x9_3).f1).length < 17592186044416 then (monticuleref19_Reached.l3 k3 l0 x5_3 x8_3 x9_3 (y177 ++ ((rd_T53 l0 x9_3).f1)) 0) else (none))) = some r := by rw [if_pos rfl] at H; exact H
                                  clear H
                                  have H := H1
                                  clear H1
                                  obtain ⟨y177, hy177⟩ : ∃ y_ : List Int, y_ = (([(rd_T53 l0 x9_3).f0] : List Int)) := ⟨_, rfl⟩
                                  replace H : (if y177.length + ((rd_T53 l0 x9_3).f1).length < 17592186044416 then (monticuleref19_Reached.l3 k3 l0 x5_3 x8_3 x9_3 (y177 ++ ((rd_T53 l0 x9_3).f1)) 0) else (none)) = some r := by first | (rw [hy177]; with_reducible exact H) | (have H2_ := (Option.bind_some _ _).symm.trans H; rw [hy177]; with_reducible exact H2_) | (have H2_ := (Option.bind_some _ _).symm.trans H; with_reducible exact H2_) | with_reducible exact H | (rw [hy177]; exact H) | exact H
                                  have Ny177 := Aside0.mk hy177
                                  clear hy177
                                  by_cases c29 : y177.length + ((rd_T53 l0 x9_3).f1).length < 17592186044416
                                  · rw [if_pos c29] at H
                                    have LMc29 := Aside0.mk c29
                                    clear c29
                                    obtain ⟨y181, hy181⟩ : ∃ y_ : List Int, y_ = (y177 ++ ((rd_T53 l0 x9_3).f1)) := ⟨_, rfl⟩
                                    replace H : (monticuleref19_Reached.l3 k3 l0 x5_3 x8_3 x9_3 y181 0) = some r := by first | (rw [hy181]; with_reducible exact H) | (have H2_ := (Option.bind_some _ _).symm.trans H; rw [hy181]; with_reducible exact H2_) | (have H2_ := (Option.bind_some _ _).symm.trans H; with_reducible exact H2_) | with_reducible exact H | (rw [hy181]; exact H) | exact H
                                    have Ny181 := Aside0.mk hy181
                                    clear hy181
                                    have H' := Aside0.mk H
                                    clear H
                                    have p175 : 0 ≤ (x9_3 : Int) := of_decide_eq_true (by first | (with_reducible assumption) | assumption)
                                    have q175 : x9_3 < (x5_3.length : Int) := of_decide_eq_true (by first | (with_reducible assumption) | assumption)
                                    obtain ⟨ad175, e175, hx175_0⟩ := Kd.at_bool (Kd.R_reads' HO_5.out).2.2 x9_3 p175 q175
                                    (try rw [← Nbq27.out] at hx175_0)
                                    obtain rfl : (⟨go9, 0, none⟩ : Addr) = ad175 := (by injection e175)
                                    (first | simp only [add_plain] at hx175_0 | simp only [add_at] at hx175_0 | simp only [Addr.add, Nat.zero_add] at hx175_0 | skip)
                                    replace p175 := eq_true p175
                                    replace q175 := eq_true q175
                                    try go_wp2
                                    have n0_ := Aside0.mk (Kd.R_drew HO_5.out)
                                    have n1_ := Aside0.mk (below_drew1 HB.out)
                                    clear HO_5
                                    clear HB
                                    have HO_5 := n0_
                                    have HB := n1_
                                    clear n0_ n1_
                                    have p176 : 0 ≤ (x9_3 : Int) := of_decide_eq_true (by first | (with_reducible assumption) | assumption)
                                    have q176 : x9_3 < (l0.length : Int) := of_decide_eq_true (by first | (with_reducible assumption) | assumption)
                                    obtain ⟨ad176, A176_1, c176_1, A176_2, c176_2, e176, hx176_0, hx176_1, hx176_2, hl176_1, hi176_1, hl176_2, hi176_2⟩ := at_T53 HR0.out x9_3 p176 q176
                                    have hw176_2 := hx176_2
                                    have hw176_1 := hx176_1
                                    have hw176_0 := hx176_0
                                    cases e176
                                    replace hx176_0 := (HB.out.cell (World.block_lt_of_cell? w _ hx176_0)).trans hx176_0
                                    replace hx176_1 := (HB.out.cell (World.block_lt_of_cell? w _ hx176_1)).trans hx176_1
                                    replace hx176_2 := (HB.out.cell (World.block_lt_of_cell? w _ hx176_2)).trans hx176_2
                                    have HR176_1 := Aside0.mk hi176_1
                                    have HC176_1 := Aside0.mk hl176_1
                                    clear hi176_1 hl176_1
                                    have HR176_2 := Aside0.mk hi176_2
                                    have HC176_2 := Aside0.mk hl176_2
                                    clear hi176_2 hl176_2
                                    replace p176 := eq_true p176
                                    replace q176 := eq_true q176
                                    have p180 : 0 ≤ (x9_3 : Int) := of_decide_eq_true (by first | (with_reducible assumption) | assumption)
                                    have q180 : x9_3 < (l0.length : Int) := of_decide_eq_true (by first | (with_reducible assumption) | assumption)
                                    obtain ⟨ad180, A180_1, c180_1, A180_2, c180_2, e180, hx180_0, hx180_1, hx180_2, hl180_1, hi180_1, hl180_2, hi180_2⟩ := at_T53 HR0.out x9_3 p180 q180
                                    have hw180_2 := hx180_2
                                    have hw180_1 := hx180_1
                                    have hw180_0 := hx180_0
                                    obtain rfl : ad176 = ad180 := (by injection e180)
                                    replace hx180_0 := (HB.out.cell (World.block_lt_of_cell? w _ hx180_0)).trans hx180_0
                                    replace hx180_1 := (HB.out.cell (World.block_lt_of_cell? w _ hx180_1)).trans hx180_1
                                    replace hx180_2 := (HB.out.cell (World.block_lt_of_cell? w _ hx180_2)).trans hx180_2
                                    have HR180_1 := Aside0.mk hi180_1
                                    have HC180_1 := Aside0.mk hl180_1
                                    clear hi180_1 hl180_1
                                    have HR180_2 := Aside0.mk hi180_2
                                    have HC180_2 := Aside0.mk hl180_2
                                    clear hi180_2 hl180_2
                                    replace p180 := eq_true p180
                                    replace q180 := eq_true q180
                                    have ea_ := Option.some.inj (hx176_1.symm.trans hx180_1)
                                    injection ea_ with ea_ en_ ec_
                                    subst ea_
                                    subst ec_
                                    clear en_
                                    have ea_ := Option.some.inj (hx176_2.symm.trans hx180_2)
                                    injection ea_ with ea_ en_ ec_
                                    subst ea_
                                    subst ec_
                                    clear en_
                                    refine start_ (n := 13) (S := fun w' => w'.cell? (ad176.add ((x9_3).toNat * 3)) = some (.int .u64 ((rd_T53 l0 x9_3).f0)) ∧ w'.cell? ⟨(ad176.add ((x9_3).toNat * 3)).block, (ad176.add ((x9_3).toNat * 3)).off + 1, none⟩ = some (.slice A176_1 ((rd_T53 l0 x9_3).f1).length c176_1) ∧ w'.cell? ⟨(ad176.add ((x9_3).toNat * 3)).block, (ad176.add ((x9_3).toNat * 3)).off + 2, none⟩ = some (.slice A176_2 ((rd_T53 l0 x9_3).f2).length c176_2) ∧ w'.cell? (ad176.add ((x9_3).toNat * 3)) = some (.int .u64 ((rd_T53 l0 x9_3).f0)) ∧ w'.cell? ⟨(ad176.add ((x9_3).toNat * 3)).block, (ad176.add ((x9_3).toNat * 3)).off + 1, none⟩ = some (.slice A176_1 ((rd_T53 l0 x9_3).f1).length c176_1) ∧ w'.cell? ⟨(ad176.add ((x9_3).toNat * 3)).block, (ad176.add ((x9_3).toNat * 3)).off + 2, none⟩ = some (.slice A176_2 ((rd_T53 l0 x9_3).f2).length c176_2)) (ds := []) #[false, false, false, false, false, false, false, false, false, false, false, false, false] (by kernel_rfl) rfl rfl ⟨((HB.out.cell (World.block_lt_of_cell? w _ hw176_0)).trans hw176_0), ((HB.out.cell (World.block_lt_of_cell? w _ hw176_1)).trans hw176_1), ((HB.out.cell (World.block_lt_of_cell? w _ hw176_2)).trans hw176_2), ((HB.out.cell (World.block_lt_of_cell? w _ hw180_0)).trans hw180_0), ((HB.out.cell (World.block_lt_of_cell? w _ hw180_1)).trans hw180_1), ((HB.out.cell (World.block_lt_of_cell? w _ hw180_2)).trans hw180_2)⟩ (fun hHeld => ?_); refine with_tabW monticuleref19_Reached.tab18 monticuleref19_Reached.bits18 (fun HT_ HW_ => ?_)
                                    generalize wr.drew = w30 at HO_5 HB HR176_1 HR176_2 HR180_1 HR180_2 hx176_0 hx176_1 hx176_2 hx180_0 hx180_1 hx180_2 hHeld ⊢
                                    refine pure_ (i := 0) (N := some 52) (v := ?_) (a' := ?_) #[true, false, false, false, false, false, false, false, false, false, false, false, false] rfl rfl (any_of HT_.out (by kernel_rfl)) (fun _ _ _ h => h) (Or.inl ⟨by rfl, ?_⟩) ?_ ?_
                                    rotate_left
                                    · intro w'
                                      go_simp
                                      with_reducible rfl
                                    rotate_left
                                    · simp only [Act.put, List.setIfInBounds_toArray, List.set_cons_zero, List.set_cons_succ, i64_w, i32_w]
                                      rfl
                                    refine pure_ (i := 1) (N := some 53) (v := ?_) (a' := ?_) #[true, true, false, false, false, false, false, false, false, false, false, false, false] rfl rfl (any_of HT_.out (by kernel_rfl)) (fun _ _ _ h => h) (Or.inl ⟨by rfl, ?_⟩) ?_ ?_
                                    rotate_left
                                    · intro w'
                                      go_simp
                                      with_reducible rfl
                                    rotate_left
                                    · simp only [Act.put, List.setIfInBounds_toArray, List.set_cons_zero, List.set_cons_succ, i64_w, i32_w]
                                      rfl
                                    refine pure_ (i := 2) (N := some 54) (v := ?_) (a' := ?_) #[true, true, true, false, false, false, false, false, false, false, false, false, false] rfl rfl (any_of HT_.out (by kernel_rfl)) (fun _ _ _ h => h) (Or.inl ⟨by rfl, ?_⟩) ?_ ?_
                                    rotate_left
                                    · intro w'
                                      go_simp
                                      with_reducible rfl
                                    rotate_left
                                    · simp only [Act.put, List.setIfInBounds_toArray, List.set_cons_zero, List.set_cons_succ, i64_w, i32_w]
                                      rfl
                                    refine pure_ (i := 3) (N := some 55) (v := ?_) (a' := ?_) #[true, true, true, true, false, false, false, false, false, false, false, false, false] rfl rfl (any_of HT_.out (by kernel_rfl)) (fun _ _ _ h => h) (Or.inl ⟨by rfl, ?_⟩) ?_ ?_
                                    rotate_left
                                    · intro w'
                                      go_simp
                                      with_reducible rfl
                                    rotate_left
                                    · simp only [Act.put, List.setIfInBounds_toArray, List.set_cons_zero, List.set_cons_succ, i64_w, i32_w]
                                      rfl
                                    refine pure_ (i := 6) (N := some 58) (v := ?_) (a' := ?_) #[true, true, true, true, false, false, true, false, false, false, false, false, false] rfl rfl (any_of HT_.out (by kernel_rfl)) (fun _ _ _ h => h) (Or.inl ⟨by rfl, ?_⟩) ?_ ?_
                                    rotate_left
                                    · intro w'
                                      go_simp
                                      with_reducible rfl
                                    rotate_left
                                    · simp only [Act.put, List.setIfInBounds_toArray, List.set_cons_zero, List.set_cons_succ, i64_w, i32_w]
                                      rfl
                                    refine pure_ (i := 7) (N := some 59) (v := ?_) (a' := ?_) #[true, true, true, true, false, false, true, true, false, false, false, false, false] rfl rfl (any_of HT_.out (by kernel_rfl)) (fun _ _ _ h => h) (Or.inl ⟨by rfl, ?_⟩) ?_ ?_
                                    rotate_left
                                    · intro w'
                                      go_simp
                                      with_reducible rfl
                                    rotate_left
                                    · simp only [Act.put, List.setIfInBounds_toArray, List.set_cons_zero, List.set_cons_succ, i64_w, i32_w]
                                      rfl
                                    refine pure_ (i := 8) (N := some 60) (v := ?_) (a' := ?_) #[true, true, true, true, false, false, true, true, true, false, false, false, false] rfl rfl (any_of HT_.out (by kernel_rfl)) (fun _ _ _ h => h) (Or.inl ⟨by rfl, ?_⟩) ?_ ?_
                                    rotate_left
                                    · intro w'
                                      go_simp
                                      with_reducible rfl
                                    rotate_left
                                    · simp only [Act.put, List.setIfInBounds_toArray, List.set_cons_zero, List.set_cons_succ, i64_w, i32_w]
                                      rfl
                                    refine pure_ (i := 9) (N := some 61) (v := ?_) (a' := ?_) #[true, true, true, true, false, false, true, true, true, true, false, false, false] rfl rfl (any_of HT_.out (by kernel_rfl)) (fun _ _ _ h => h) (Or.inl ⟨by rfl, ?_⟩) ?_ ?_
                                    rotate_left
                                    · intro w'
                                      go_simp
                                      with_reducible rfl
                                    rotate_left
                                    · simp only [Act.put, List.setIfInBounds_toArray, List.set_cons_zero, List.set_cons_succ, i64_w, i32_w]
                                      rfl
                                    refine take_ (i := 4) (N := some 56) (v := ?_) (a' := ?_) #[true, true, true, true, true, false, true, true, true, true, false, false, false] rfl rfl (take_ofW HT_.out HW_.out (by kernel_rfl)) (fun _ _ _ h => h) (Or.inl ⟨by rfl, ?_⟩) hHeld ?_ ?_
                                    rotate_left
                                    · rintro w' ⟨s0, s1, s2, s3, s4, s5⟩
                                      go_simp
                                      with_reducible rfl
                                    rotate_left
                                    · simp only [Act.put, List.setIfInBounds_toArray, List.set_cons_zero, List.set_cons_succ, i64_w, i32_w]
                                      rfl
                                    refine take_ (i := 10) (N := some 62) (v := ?_) (a' := ?_) #[true, true, true, true, true, false, true, true, true, true, true, false, false] rfl rfl (take_ofW HT_.out HW_.out (by kernel_rfl)) (fun _ _ _ h => h) (Or.inl ⟨by rfl, ?_⟩) hHeld ?_ ?_
                                    rotate_left
                                    · rintro w' ⟨s0, s1, s2, s3, s4, s5⟩
                                      go_simp
                                      with_reducible rfl
                                    rotate_left
                                    · simp only [Act.put, List.setIfInBounds_toArray, List.set_cons_zero, List.set_cons_succ, i64_w, i32_w]
                                      rfl
                                    refine one_ (i := 5) (N := some 57) #[true, true, true, true, true, true, true, true, true, true, true, false, false] rfl rfl (one_of HT_.out (by kernel_rfl)) (by decide) (fun K hK => ?_)
                                    refine Kd.R_lit_step (Kd.int .u64) _ 36 ?hg (N := 57) ?hd (xs := ([(rd_T53 l0 x9_3).f0] : List Int)) (inner := [.int .u64 ((rd_T53 l0 x9_3).f0)]) (ok := fun _ => True) (okp := fun _ => True) ?hr ?hp (fun _ hk => hk) trivial (Below.refl _ _) (Nat.le_refl _) (by simp) ?_; (case hd => rfl); (case hg => rfl); (case hr => first | (go_simp; done) | (go_simp; rfl)); (case hp => exact (Reps.one (show Kd.M (Kd.int .u64) _ _ _ ((rd_T53 l0 x9_3).f0) [.int .u64 ((rd_T53 l0 x9_3).f0)] from rfl) (Reps.none _ _)))
                                    intro v178 w31 ho32 hb hg_ hnew_
                                    clear hg_ hnew_
                                    (first | rw [← Ny177.out] at ho32 | (simp only [Int.reduceToNat] at ho32; rw [← Ny177.out] at ho32))
                                    have n0_ := Aside0.mk (Kd.R_below (by (with_reducible repeat (first | apply Kd.R_alloc | apply Kd.R_drewN | apply Kd.R_drew)); exact HO_5.out) hb)
                                    have n1_ := Aside0.mk (Kd.R_lower ho32 (below_size (by repeat (first | (with_reducible first | exact HB.out | apply below_alloc | apply pw_below_drewN | apply below_drew1) | exact HB.out))))
                                    have n2_ := Aside0.mk (below_step (by repeat (first | (with_reducible first | exact HB.out | apply below_alloc | apply pw_below_drewN | apply below_drew1) | exact HB.out)) hb)
                                    clear HO_5
                                    clear HB
                                    have HO_5 := n0_
                                    have HO179 := n1_
                                    have HB := n2_
                                    clear n0_ n1_ n2_
                                    clear hb ho32
                                    refine hK.out _ _ ⟨((HB.out.cell (World.block_lt_of_cell? w _ hw176_0)).trans hw176_0), ((HB.out.cell (World.block_lt_of_cell? w _ hw176_1)).trans hw176_1), ((HB.out.cell (World.block_lt_of_cell? w _ hw176_2)).trans hw176_2), ((HB.out.cell (World.block_lt_of_cell? w _ hw180_0)).trans hw180_0), ((HB.out.cell (World.block_lt_of_cell? w _ hw180_1)).trans hw180_1), ((HB.out.cell (World.block_lt_of_cell? w _ hw180_2)).trans hw180_2)⟩ (fun hHeld => ?_)
                                    clear hK K
                                    refine norm_ (a' := ?_) ?_ ?_
                                    rotate_left
                                    · show Act.put _ (some 57) _ = _
                                      simp only [Act.put, List.setIfInBounds_toArray, List.set_cons_zero, List.set_cons_succ, i64_w, i32_w]
                                      rfl
                                    refine one_ (i := 11) (N := some 63) #[true, true, true, true, true, true, true, true, true, true, true, true, false] rfl rfl (one_of HT_.out (by kernel_rfl)) (by decide) (fun K hK => ?_)
                                    refine Kd.R_append_rows_step (Kd.int .u64) (w0 := w) w.heap.size (by rfl) (.tmp 57) (.tmp 62) 50 36 (.int .u64 0) 8 rfl Try.underlying50 info36 rfl (by decide) (by omega) v178 y177 ((rd_T53 l0 x9_3).f1) _ _ _ (fun _ => True) (fun _ => False) rfl rfl ?aO ?aR (fun _ _ h => h) (fun _ h => h.elim) ?aF ?aB ?aS ?aL ?_
                                    (case aR => repeat (first | exact (Kd.C_below HR180_1.out HB.out) | (with_reducible refine Kd.C_alloc ?_ _) | (with_reducible refine Kd.C_drewN ?_ _) | (with_reducible refine Kd.C_drew ?_)))
                                    (case aB => exact (by repeat (first | (with_reducible first | exact HB.out | apply below_alloc | apply pw_below_drewN | apply below_drew1) | exact HB.out)))
                                    (case aF => exact (fun _ _ => trivial))
                                    (case aO => exact (by (with_reducible repeat (first | apply Kd.R_alloc | apply Kd.R_drewN | apply Kd.R_drew)); exact HO179.out))
                                    (case aS => exact (below_size (by repeat (first | (with_reducible first | exact HB.out | apply below_alloc | apply pw_below_drewN | apply below_drew1) | exact HB.out))))
                                    (case aL => have := LMc29.out; omega)
                                    intro v182 w33 ho hb hg hat
                                    rw [← Ny181.out] at ho
                                    have n0_ := Aside0.mk (Kd.R_over' (by (with_reducible repeat (first | apply Kd.R_alloc | apply Kd.R_drewN | apply Kd.R_drew)); exact HO_5.out) (Kd.R_typed (by (with_reducible repeat (first | apply Kd.R_alloc | apply Kd.R_drewN | apply Kd.R_drew)); exact HO179.out)) (by decide) hg)
                                    have n1_ := Aside0.mk (hb)
                                    have n2_ := Aside0.mk (ho)
                                    clear HO_5
                                    clear HB
                                    clear HO179
                                    have HO_5 := n0_
                                    have HB := n1_
                                    have HO183 := n2_
                                    clear n0_ n1_ n2_
                                    clear ho hb hg hat
                                    refine hK.out _ _ ⟨((HB.out.cell (World.block_lt_of_cell? w _ hw176_0)).trans hw176_0), ((HB.out.cell (World.block_lt_of_cell? w _ hw176_1)).trans hw176_1), ((HB.out.cell (World.block_lt_of_cell? w _ hw176_2)).trans hw176_2), ((HB.out.cell (World.block_lt_of_cell? w _ hw180_0)).trans hw180_0), ((HB.out.cell (World.block_lt_of_cell? w _ hw180_1)).trans hw180_1), ((HB.out.cell (World.block_lt_of_cell? w _ hw180_2)).trans hw180_2)⟩ (fun hHeld => ?_)
                                    clear hK K
                                    refine norm_ (a' := ?_) ?_ ?_
                                    rotate_left
                                    · show Act.put _ (some 63) _ = _
                                      simp only [Act.put, List.setIfInBounds_toArray, List.set_cons_zero, List.set_cons_succ, i64_w, i32_w]
                                      rfl
                                    refine pure_ (i := 12) (N := some 10) (v := ?_) (a' := ?_) #[true, true, true, true, true, true, true, true, true, true, true, true, true] rfl rfl (any_of HT_.out (by kernel_rfl)) (fun _ _ _ h => h) (Or.inl ⟨by rfl, ?_⟩) ?_ ?_
                                    rotate_left
                                    · intro w'
                                      go_simp
                                      with_reducible rfl
                                    rotate_left
                                    · simp only [Act.put, List.setIfInBounds_toArray, List.set_cons_zero, List.set_cons_succ, i64_w, i32_w]
                                      rfl
                                    refine done_ (done_of HT_.out (by kernel_rfl)) ?_
                                    try go_wp2
                                    go_loopg [8, 11] k3 (fun kq v8 v11 w' => ∃ (x5_4 : List Bool) (x8_4 : Bool) (x11_4 : Int), v8 = .bool x8_4 ∧ v11 = .int .i64 x11_4 ∧ Aside0 (monticuleref19_Reached.l3 kq l0 x5_4 x8_4 x9_3 y181 x11_4 = some r) ∧ Aside0 (kq ≤ k3) ∧ Aside0 (Kd.R Kd.bool 4 w' w.heap.size (fun _ => True) (.slice (some ⟨go9, 0, none⟩) x5_3.length co9) x5_4) ∧ Aside0 (Kd.R (Kd.int .u64) 36 w' w.heap.size (fun _ => True) v182 y181) ∧ Aside0 (Below w.heap.size w w'))
                                    case atStart => exact ⟨(x5_3), (x8_3), (0), (by first | rfl | (simp; done) | (simp [*]; done)), (by first | rfl | (simp; done) | (simp [*]; done)), H', ⟨Nat.le_refl _⟩, ⟨by (try simp only [hl5_1]); (try simp only [hl5_2]); (try simp only [hl5_3]); (with_reducible repeat (first | apply Kd.R_alloc | apply Kd.R_drewN | apply Kd.R_drew)); exact HO_5.out⟩, ⟨by (try simp only [hl5_1]); (try simp only [hl5_2]); (try simp only [hl5_3]); (with_reducible repeat (first | apply Kd.R_alloc | apply Kd.R_drewN | apply Kd.R_drew)); exact HO183.out⟩, ⟨by repeat (first | (with_reducible first | exact HB.out | apply below_alloc | apply pw_below_drewN | apply below_drew1) | exact HB.out)⟩⟩
                                    case round =>
                                      clear H'
                                      try clear c1
                                      try clear p1
                                      try clear q1
                                      try clear hx1
                                      try clear c2
                                      try clear p2
                                      try clear q2
                                      try clear hx2
                                      try clear hf2
                                      try clear c3
                                      try clear c3b0
                                      try clear c3b1
                                      try clear c4
                                      try clear c4b0
                                      try clear c4b1
                                      try clear c5
                                      try clear c5b0
                                      try clear c5b1
                                      try clear c5b2
                                      try clear p6
                                      try clear c8
                                      try clear c8b0
                                      try clear c8b1
                                      try clear p9
                                      try clear q9
                                      try clear hx9
                                      try clear qi9
                                      try clear hf9
                                      try clear c14
                                      try clear c14b0
                                      try clear c15
                                      try clear c15b0
                                      try clear c17
                                      try clear c17b0
                                      try clear p17
                                      try clear q17
                                      try clear hx17
                                      try clear c18
                                      try clear c18b0
                                      try clear p18
                                      try clear q18
                                      try clear hx18
                                      try clear c19
                                      try clear c19b0
                                      try clear p20
                                      try clear q20
                                      try clear hx20
                                      try clear hf20
                                      try clear c23
                                      try clear c24
                                      try clear c24b0
                                      try clear c25
                                      try clear c25b0
                                      try clear c26
                                      try clear c26b0
                                      try clear q27
                                      try clear c28
                                      try clear c29
                                      try clear hx172_0
                                      try clear hx175_0
                                      try clear hx176_0
                                      try clear hx176_1
                                      try clear hx176_2
                                      try clear hx180_0
                                      try clear hx180_1
                                      try clear hx180_2
                                      try clear hx20_0
                                      try clear hx9_0
                                      try clear p1
                                      try clear p17
                                      try clear p172
                                      try clear p175
                                      try clear p176
                                      try clear p180
                                      try clear p2
                                      try clear p20
                                      try clear p6
                                      try clear p9
                                      try clear q1
                                      try clear q17
                                      try clear q172
                                      try clear q175
                                      try clear q176
                                      try clear q180
                                      try clear q2
                                      try clear q20
                                      try clear q9
                                      obtain ⟨x5_4, x8_4, x11_4, rfl, rfl, HA, HK4, HO_5, HO_10, HB⟩ := hrel
                                      have hl5_4 := (Kd.R_reads' HO_5.out).1
                                      rw [hl5_4] at HO_5
                                      (try simp only [hl5_4])
                                      (try simp only [hl5_4] at HO_10)
                                      cases gk with
                                      | zero => exact absurd HA.out (by simp [monticuleref19_Reached.l3])
                                      | succ k4 =>
                                        have H := HA.out
                                        clear HA
                                        simp only [monticuleref19_Reached.l3] at H
                                        by_cases c34 : x11_4 < (y181.length : Int)
                                        · rw [if_pos c34] at H
                                          have c34b0 : decide (x11_4 < (y181.length : Int)) = true := decide_eq_true c34
                                          clear c34
                                          by_cases c35 : 0 ≤ x11_4
                                          · rw [if_pos c35] at H
                                            have c35b0 : decide (0 ≤ x11_4) = true := decide_eq_true c35
                                            clear c35
                                            replace H := Option.bind_eq_some_iff.mp H
                                            obtain ⟨t185, A360, H⟩ := H
                                            replace H : (if t185 ≥ 0 then (if 0 ≤ t185 then (if t185 < (x5_4.length : Int) then (if rdOf false x5_4 t185 = true then (monticuleref19_Reached.l3 k4 l0 x5_4 x8_4 x9_3 y181 (wrap64 (x11_4 + 1))) else (monticuleref19_Reached.l3 k4 l0 (x5_4.set (t185 : Int).toNat true) true x9_3 y181 (wrap64 (x11_4 + 1)))) else (none)) else (none)) else (monticuleref19_Reached.l3 k4 l0 x5_4 x8_4 x9_3 y181 (wrap64 (x11_4 + 1)))) = some r := H
                                            have A36 := Aside0.mk A360
                                            clear A360
                                            by_cases c37 : t185 ≥ 0
                                            · rw [if_pos c37] at H
                                              have c37b0 : decide (0 ≤ t185) = true := decide_eq_true c37
                                              clear c37
                                              by_cases c38 : 0 ≤ t185
                                              · rw [if_pos c38] at H
                                                have c38b0 : decide (0 ≤ t185) = true := decide_eq_true c38
                                                clear c38
                                                by_cases c39 : t185 < (x5_4.length : Int)
                                                · rw [if_pos c39] at H
                                                  have c39b0 : decide (t185 < (x5_4.length : Int)) = true := decide_eq_true c39
                                                  clear c39
                                                  obtain ⟨bq40, hbq40⟩ : ∃ b_ : Bool, b_ = (rdOf false x5_4 t185) := ⟨_, rfl⟩
                                                  replace H : (if bq40 = true then (monticuleref19_Reached.l3 k4 l0 x5_4 x8_4 x9_3 y181 (wrap64 (x11_4 + 1))) else (monticuleref19_Reached.l3 k4 l0 (x5_4.set (t185 : Int).toNat true) true x9_3 y181 (wrap64 (x11_4 + 1)))) = some r := by rw [← hbq40] at H; exact H
                                                  have Nbq40 := Aside0.mk hbq40
                                                  clear hbq40
                                                  by_cases c41 : bq40 = true
                                                  · subst c41
                                                    have H1 : (monticuleref19_Reached.l3 k4 l0 x5_4 x8_4 x9_3 y181 (wrap64 (x11_4 + 1))) = some r := by rw [if_pos rfl] at H; exact H
                                                    clear H
                                                    have H := H1
                                                    clear H1
                                                    have H' := Aside0.mk H
                                                    clear H
                                                    obtain ⟨Ao42, co42, eo42⟩ := Kd.R_slice HO_10.out
                                                    subst eo42
                                                    have p184 : 0 ≤ (x11_4 : Int) := of_decide_eq_true (by first | (with_reducible assumption) | assumption)
                                                    have q184 : x11_4 < (y181.length : Int) := of_decide_eq_true (by first | (with_reducible assumption) | assumption)
                                                    obtain ⟨ad184, e184, hx184_0⟩ := Kd.at_int (Kd.R_reads' HO_10.out).2.2 x11_4 p184 q184
                                                    cases e184
                                                    replace p184 := eq_true p184
                                                    replace q184 := eq_true q184
                                                    go_wp2_with (first | ((with_reducible refine gate_callee (f := 41) rfl ?_); refine goesL_ (some 76) rfl rfl Try.func41 (by kernel_rfl) rfl #[.int .u64 (rd y181 x11_4), .int .i64 (l0.length : Int)] rfl (by (try simp only [List.map_toArray, List.map_cons, List.map_nil]); first | done | rfl | (simp only [List.length_drop, List.length_take]; rfl)) ?_; (with_reducible refine (monticuleref18_There.calls (rd y181 x11_4) (l0.length : Int) t185 _ A36.out).mono ?_); rintro e w' ⟨rfl, ⟨nd, rfl⟩⟩; refine ⟨_, rfl, ?_⟩; have p186 : 0 ≤ (t185 : Int) := of_decide_eq_true (by first | (with_reducible assumption) | assumption); have q186 : t185 < (x5_4.length : Int) := of_decide_eq_true (by first | (with_reducible assumption) | assumption); obtain ⟨ad186, e186, hx186_0⟩ := Kd.at_bool (Kd.R_reads' HO_5.out).2.2 t185 p186 q186; (try rw [← Nbq27.out] at hx186_0); (try rw [← Nbq40.out] at hx186_0); obtain rfl : (⟨go9, 0, none⟩ : Addr) = ad186 := (by injection e186); (first | simp only [add_plain] at hx186_0 | simp only [add_at] at hx186_0 | simp only [Addr.add, Nat.zero_add] at hx186_0 | skip); replace p186 := eq_true p186; replace q186 := eq_true q186))
                                                    (try simp only [← hl5_4])
                                                    go_roundg k4
                                                    case measure => have := HK1.out; have := HK2.out; have := HK3.out; have := HK4.out; omega
                                                    case rel => exact ⟨(x5_4), (x8_4), (wrap64 (x11_4 + 1)), (by first | rfl | (simp; done) | (simp [*]; done)), (by first | rfl | (simp; done) | (simp [*]; done)), H', ⟨by have := HK1.out; have := HK2.out; have := HK3.out; have := HK4.out; omega⟩, ⟨by (try simp only [hl5_1]); (try simp only [hl5_2]); (try simp only [hl5_3]); (try simp only [hl5_4]); (with_reducible repeat (first | apply Kd.R_alloc | apply Kd.R_drewN | apply Kd.R_drew)); exact HO_5.out⟩, ⟨by (try simp only [hl5_1]); (try simp only [hl5_2]); (try simp only [hl5_3]); (try simp only [hl5_4]); (with_reducible repeat (first | apply Kd.R_alloc | apply Kd.R_drewN | apply Kd.R_drew)); exact HO_10.out⟩, ⟨by repeat (first | (with_reducible first | exact HB.out | apply below_alloc | apply pw_below_drewN | apply below_drew1) | exact HB.out)⟩⟩
                                                  · replace c41 := Bool.eq_false_iff.mpr c41
                                                    subst c41
                                                    have H1 : (monticuleref19_Reached.l3 k4 l0 (x5_4.set (t185 : Int).toNat true) true x9_3 y181 (wrap64 (x11_4 + 1))) = some r := by rw [if_neg (show ¬ (false = true) by decide)] at H; exact H
                                                    clear H
                                                    have H := H1
                                                    clear H1
                                                    obtain ⟨y187, hy187⟩ : ∃ y_ : List Bool, y_ = (x5_4.set (t185 : Int).toNat true) := ⟨_, rfl⟩
                                                    replace H : (monticuleref19_Reached.l3 k4 l0 y187 true x9_3 y181 (wrap64 (x11_4 + 1))) = some r := by first | (rw [hy187]; with_reducible exact H) | (have H2_ := (Option.bind_some _ _).symm.trans H; rw [hy187]; with_reducible exact H2_) | (have H2_ := (Option.bind_some _ _).symm.trans H; with_reducible exact H2_) | with_reducible exact H | (rw [hy187]; exact H) | exact H
                                                    have Ny187 := Aside0.mk hy187
                                                    clear hy187
                                                    have H' := Aside0.mk H
                                                    clear H
                                                    obtain ⟨Ao44, co44, eo44⟩ := Kd.R_slice HO_10.out
                                                    subst eo44
                                                    have p184 : 0 ≤ (x11_4 : Int) := of_decide_eq_true (by first | (with_reducible assumption) | assumption)
                                                    have q184 : x11_4 < (y181.length : Int) := of_decide_eq_true (by first | (with_reducible assumption) | assumption)
                                                    obtain ⟨ad184, e184, hx184_0⟩ := Kd.at_int (Kd.R_reads' HO_10.out).2.2 x11_4 p184 q184
                                                    cases e184
                                                    replace p184 := eq_true p184
                                                    replace q184 := eq_true q184
                                                    go_wp2_with (first | ((with_reducible refine gate_callee (f := 41) rfl ?_); refine goesL_ (some 76) rfl rfl Try.func41 (by kernel_rfl) rfl #[.int .u64 (rd y181 x11_4), .int .i64 (l0.length : Int)] rfl (by (try simp only [List.map_toArray, List.map_cons, List.map_nil]); first | done | rfl | (simp only [List.length_drop, List.length_take]; rfl)) ?_; (with_reducible refine (monticuleref18_There.calls (rd y181 x11_4) (l0.length : Int) t185 _ A36.out).mono ?_); rintro e w' ⟨rfl, ⟨nd, rfl⟩⟩; refine ⟨_, rfl, ?_⟩; (try (rw [drewN_self wr]; generalize hq_ : World.drewN wr _ = wr; have n0_ : Aside0 (Kd.R (Kd.int .u64) 36 wr w.heap.size (fun _ => True) (.slice (some ad184) y181.length co44) y181) := ⟨by rw [← hq_]; exact (by (with_reducible repeat (first | apply Kd.R_alloc | apply Kd.R_drewN | apply Kd.R_drew)); exact HO_10.out)⟩; have n1_ : Aside0 (Kd.R Kd.bool 4 wr w.heap.size (fun _ => True) (.slice (some ⟨go9, 0, none⟩) x5_4.length co9) x5_4) := ⟨by rw [← hq_]; exact (by (with_reducible repeat (first | apply Kd.R_alloc | apply Kd.R_drewN | apply Kd.R_drew)); exact HO_5.out)⟩; have n2_ : Aside0 (Below w.heap.size w wr) := ⟨by rw [← hq_]; exact (by repeat (first | (with_reducible first | exact HB.out | apply below_alloc | apply pw_below_drewN | apply below_drew1) | exact HB.out))⟩; clear HO_10 HO_5 HB hq_; have HO_10 := n0_; have HO_5 := n1_; have HB := n2_; clear n0_ n1_ n2_)); have p186 : 0 ≤ (t185 : Int) := of_decide_eq_true (by first | (with_reducible assumption) | assumption); have q186 : t185 < (x5_4.length : Int) := of_decide_eq_true (by first | (with_reducible assumption) | assumption); obtain ⟨ad186, e186, hx186_0⟩ := Kd.at_bool (Kd.R_reads' HO_5.out).2.2 t185 p186 q186; (try rw [← Nbq27.out] at hx186_0); (try rw [← Nbq40.out] at hx186_0); obtain rfl : (⟨go9, 0, none⟩ : Addr) = ad186 := (by injection e186); (first | simp only [add_plain] at hx186_0 | simp only [add_at] at hx186_0 | simp only [Addr.add, Nat.zero_add] at hx186_0 | skip); replace p186 := eq_true p186; replace q186 := eq_true q186; have p43 : 0 ≤ (t185 : Int) := of_decide_eq_true (by first | (with_reducible assumption) | assumption); have q43 : (t185 : Int) < ((x5_4.length : Int) : Int) := of_decide_eq_true (by first | (with_reducible assumption) | assumption); obtain ⟨hx43_0, hf43_0⟩ := Kd.R_celln false HO_5.out (t185 : Int) p43 q43; replace p43 := eq_true p43; replace q43 := eq_true q43; obtain ⟨hy45_, hz45_⟩ := Kd.R_celln false HO_5.out (t185 : Int) (of_decide_eq_true (by first | (with_reducible assumption) | assumption)) (of_decide_eq_true (by first | (with_reducible assumption) | assumption)); have HP45 := Kd.R_putg HO_5.out (t185 : Int) true) | ((with_reducible refine gate_store (t := 4) (p := 88) rfl ?_); refine store_event (t := 4) (p := 88) (v := ?vo_w46) (w1 := (wr.setCell ⟨go9, (t185 : Int).toNat, none⟩ (.bool true))) ?hg ?ho ?hn ?hr ?_; (case ho => rfl); (case hg => rfl); (case hn => rfl); (case hr => first | (go_simp; done) | (go_simp; rfl)); intro w46 hw; have hg : wr.grownBy w46 (some go9) := (by rw [hw]; exact HP45.2); have hp_ : Kd.R Kd.bool 4 w46 w.heap.size (fun _ => True) (.slice (some ⟨go9, 0, none⟩) x5_4.length co9) y187 := (by rw [hw, Ny187.out]; exact HP45.1); clear HP45; have n0_ := Aside0.mk (hp_); have n1_ := Aside0.mk (Kd.R_over' (v := (.slice (some ⟨go9, 0, none⟩) x5_4.length co9)) (by (with_reducible repeat (first | apply Kd.R_alloc | apply Kd.R_drewN | apply Kd.R_drew)); exact HO_10.out) (Kd.R_typed HO_5.out) (by decide) hg); have n2_ := Aside0.mk ((by rw [hw]; exact below_set (HB.out) GB9.out : Below w.heap.size w w46)); clear HO_5; clear HO_10; clear HB; have HO_5 := n0_; have HO_10 := n1_; have HB := n2_; clear n0_ n1_ n2_; clear hg hw hp_))
                                                    (try simp only [← hl5_4])
                                                    go_roundg k4
                                                    case measure => have := HK1.out; have := HK2.out; have := HK3.out; have := HK4.out; omega
                                                    case rel => exact ⟨(y187), (true), (wrap64 (x11_4 + 1)), (by first | rfl | (simp; done) | (simp [*]; done)), (by first | rfl | (simp; done) | (simp [*]; done)), H', ⟨by have := HK1.out; have := HK2.out; have := HK3.out; have := HK4.out; omega⟩, ⟨by (try simp only [hl5_1]); (try simp only [hl5_2]); (try simp only [hl5_3]); (try simp only [hl5_4]); (with_reducible repeat (first | apply Kd.R_alloc | apply Kd.R_drewN | apply Kd.R_drew)); exact HO_5.out⟩, ⟨by (try simp only [hl5_1]); (try simp only [hl5_2]); (try simp only [hl5_3]); (try simp only [hl5_4]); (with_reducible repeat (first | apply Kd.R_alloc | apply Kd.R_drewN | apply Kd.R_drew)); exact HO_10.out⟩, ⟨by repeat (first | (with_reducible first | exact HB.out | apply below_alloc | apply pw_below_drewN | apply below_drew1) | exact HB.out)⟩⟩
                                                · rw [if_neg c39] at H
                                                  exact absurd H (by simp)
                                              · rw [if_neg c38] at H
                                                exact absurd H (by simp)
                                            · rw [if_neg c37] at H
                                              have c37b0 : decide (0 ≤ t185) = false := decide_eq_false c37
                                              clear c37
                                              have H' := Aside0.mk H
                                              clear H
                                              obtain ⟨Ao47, co47, eo47⟩ := Kd.R_slice HO_10.out
                                              subst eo47
                                              have p184 : 0 ≤ (x11_4 : Int) := of_decide_eq_true (by first | (with_reducible assumption) | assumption)
                                              have q184 : x11_4 < (y181.length : Int) := of_decide_eq_true (by first | (with_reducible assumption) | assumption)
                                              obtain ⟨ad184, e184, hx184_0⟩ := Kd.at_int (Kd.R_reads' HO_10.out).2.2 x11_4 p184 q184
                                              cases e184
                                              replace p184 := eq_true p184
                                              replace q184 := eq_true q184
                                              go_wp2_with (first | ((with_reducible refine gate_callee (f := 41) rfl ?_); refine goesL_ (some 76) rfl rfl Try.func41 (by kernel_rfl) rfl #[.int .u64 (rd y181 x11_4), .int .i64 (l0.length : Int)] rfl (by (try simp only [List.map_toArray, List.map_cons, List.map_nil]); first | done | rfl | (simp only [List.length_drop, List.length_take]; rfl)) ?_; (with_reducible refine (monticuleref18_There.calls (rd y181 x11_4) (l0.length : Int) t185 _ A36.out).mono ?_); rintro e w' ⟨rfl, ⟨nd, rfl⟩⟩; refine ⟨_, rfl, ?_⟩))
                                              (try simp only [← hl5_4])
                                              go_roundg k4
                                              case measure => have := HK1.out; have := HK2.out; have := HK3.out; have := HK4.out; omega
                                              case rel => exact ⟨(x5_4), (x8_4), (wrap64 (x11_4 + 1)), (by first | rfl | (simp; done) | (simp [*]; done)), (by first | rfl | (simp; done) | (simp [*]; done)), H', ⟨by have := HK1.out; have := HK2.out; have := HK3.out; have := HK4.out; omega⟩, ⟨by (try simp only [hl5_1]); (try simp only [hl5_2]); (try simp only [hl5_3]); (try simp only [hl5_4]); (with_reducible repeat (first | apply Kd.R_alloc | apply Kd.R_drewN | apply Kd.R_drew)); exact HO_5.out⟩, ⟨by (try simp only [hl5_1]); (try simp only [hl5_2]); (try simp only [hl5_3]); (try simp only [hl5_4]); (with_reducible repeat (first | apply Kd.R_alloc | apply Kd.R_drewN | apply Kd.R_drew)); exact HO_10.out⟩, ⟨by repeat (first | (with_reducible first | exact HB.out | apply below_alloc | apply pw_below_drewN | apply below_drew1) | exact HB.out)⟩⟩
                                          · rw [if_neg c35] at H
                                            exact absurd H (by simp)
                                        · rw [if_neg c34] at H
                                          have c34b0 : decide (x11_4 < (y181.length : Int)) = false := decide_eq_false c34
                                          clear c34
                                          have H' := Aside0.mk H
                                          clear H
                                          obtain ⟨Ao48, co48, eo48⟩ := Kd.R_slice HO_10.out
                                          subst eo48
                                          go_wp2
                                          (try simp only [← hl5_3, ← hl5_4])
                                          go_roundg k4
                                          case measure => have := HK1.out; have := HK2.out; have := HK3.out; have := HK4.out; omega
                                          case rel => exact ⟨(x5_4), (x8_4), (wrap64 (x9_3 + 1)), (by first | rfl | (simp; done) | (simp [*]; done)), (by first | rfl | (simp; done) | (simp [*]; done)), H', ⟨by have := HK1.out; have := HK2.out; have := HK3.out; have := HK4.out; omega⟩, ⟨by (try simp only [hl5_1]); (try simp only [hl5_2]); (try simp only [hl5_3]); (try simp only [hl5_4]); (with_reducible repeat (first | apply Kd.R_alloc | apply Kd.R_drewN | apply Kd.R_drew)); exact HO_5.out⟩, ⟨by repeat (first | (with_reducible first | exact HB.out | apply below_alloc | apply pw_below_drewN | apply below_drew1) | exact HB.out)⟩⟩
                                  · rw [if_neg c29] at H
                                    exact absurd H (by simp)
                                · replace c28 := Bool.eq_false_iff.mpr c28
                                  subst c28
                                  have H1 : (monticuleref19_Reached.l2 k3 l0 x5_3 x8_3 (wrap64 (x9_3 + 1))) = some r := by rw [if_neg (show ¬ (false = true) by decide)] at H; exact H
                                  clear H
                                  have H := H1
                                  clear H1
                                  have H' := Aside0.mk H
                                  clear H
                                  have p175 : 0 ≤ (x9_3 : Int) := of_decide_eq_true (by first | (with_reducible assumption) | assumption)
                                  have q175 : x9_3 < (x5_3.length : Int) := of_decide_eq_true (by first | (with_reducible assumption) | assumption)
                                  obtain ⟨ad175, e175, hx175_0⟩ := Kd.at_bool (Kd.R_reads' HO_5.out).2.2 x9_3 p175 q175
                                  (try rw [← Nbq27.out] at hx175_0)
                                  obtain rfl : (⟨go9, 0, none⟩ : Addr) = ad175 := (by injection e175)
                                  (first | simp only [add_plain] at hx175_0 | simp only [add_at] at hx175_0 | simp only [Addr.add, Nat.zero_add] at hx175_0 | skip)
                                  replace p175 := eq_true p175
                                  replace q175 := eq_true q175
                                  go_wp2
                                  (try simp only [← hl5_3])
                                  go_roundg k3
                                  case measure => have := HK1.out; have := HK2.out; have := HK3.out; omega
                                  case rel => exact ⟨(x5_3), (x8_3), (wrap64 (x9_3 + 1)), (by first | rfl | (simp; done) | (simp [*]; done)), (by first | rfl | (simp; done) | (simp [*]; done)), H', ⟨by have := HK1.out; have := HK2.out; have := HK3.out; omega⟩, ⟨by (try simp only [hl5_1]); (try simp only [hl5_2]); (try simp only [hl5_3]); (with_reducible repeat (first | apply Kd.R_alloc | apply Kd.R_drewN | apply Kd.R_drew)); exact HO_5.out⟩, ⟨by repeat (first | (with_reducible first | exact HB.out | apply below_alloc | apply pw_below_drewN | apply below_drew1) | exact HB.out)⟩⟩
                              · rw [if_neg c26] at H
                                exact absurd H (by simp)
                            · rw [if_neg c25] at H
                              exact absurd H (by simp)
                          · rw [if_neg c24] at H
                            have c24b0 : decide (x9_3 < (l0.length : Int)) = false := decide_eq_false c24
                            clear c24
                            have H' := Aside0.mk H
                            clear H
                            go_wp2
                            (try simp only [← hl5_2, ← hl5_3])
                            go_roundg k3
                            case measure => have := HK1.out; have := HK2.out; have := HK3.out; omega
                            case rel => exact ⟨(x5_3), (x8_3), (by first | rfl | (simp; done) | (simp [*]; done)), H', ⟨by have := HK1.out; have := HK2.out; have := HK3.out; omega⟩, ⟨by (try simp only [hl5_1]); (try simp only [hl5_2]); (try simp only [hl5_3]); (with_reducible repeat (first | apply Kd.R_alloc | apply Kd.R_drewN | apply Kd.R_drew)); exact HO_5.out⟩, ⟨by repeat (first | (with_reducible first | exact HB.out | apply below_alloc | apply pw_below_drewN | apply below_drew1) | exact HB.out)⟩⟩
                    · replace c23 := Bool.eq_false_iff.mpr c23
                      subst c23
                      have H1 : (some x5_2) = some r := by rw [if_neg (show ¬ (false = true) by decide)] at H; exact H
                      clear H
                      have H := H1
                      clear H1
                      obtain rfl := Option.some.inj H
                      go_wp2
                      go_ret
                      exact ⟨_, by first | rfl | (simp [errW_none, errW_some] <;> rfl) | (simp [*, errW_none, errW_some] <;> rfl), by (with_reducible repeat (first | apply Kd.R_alloc | apply Kd.R_drewN | apply Kd.R_drew)); exact HO_5.out, by repeat (first | (with_reducible first | exact HB.out | apply below_alloc | apply pw_below_drewN | apply below_drew1) | exact HB.out)⟩
        · rw [if_neg c8] at H
          exact absurd H (by simp)
    · rw [if_neg c4] at H
      exact absurd H (by simp)
  · rw [if_neg c3] at H
    exact absurd H (by simp)

end Go.Proofs.Ytiokegmpooildaa.PAll
