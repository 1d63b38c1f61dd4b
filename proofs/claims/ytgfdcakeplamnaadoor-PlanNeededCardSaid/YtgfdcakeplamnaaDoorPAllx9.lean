-- printed by xprint.py (this session's driver round the kit's print) out of the translation; Lean checks it
import Derived.Test.YtgfdcakeplamnaaDoorPAllx0
import Derived.Test.YtgfdcakeplamnaaDoorPAllx6
namespace Go.Proofs.YtgfdcakeplamnaaDoor.PAll
open Go.RowKit Go.Proofs.YtgfdcakeplamnaaDoorW.PrintWords Go.Proofs.YtgfdcakeplamnaaDoorW.PrintLast Go.Proofs.YtgfdcakeplamnaaDoorW.PrintMore
attribute [local go_sem] max2_int min2_int max_two min_two max_three min_three max_four min_four   -- for this text's walks alone
set_option linter.unusedVariables false
set_option linter.unusedSimpArgs false

/-! ### monticuleref28_Needed: function 16 -/
def monticuleref28_Needed.l0 : Nat → List (S42) → ByteArray → List ByteArray → Int → Option (List ByteArray)
  | 0, _, _, _, _ => none
  | k + 1, x0, x1, x5, x6 => if x6 < (x0.length : Int) then (if 0 ≤ x6 then ((monticuleref06_In.f k ((rd_T42 x0 x6).f2) x1).bind fun t268 => (if t268 = true then (if x5.length < 8796093022208 then (monticuleref28_Needed.l0 k x0 x1 (x5 ++ [(rd_T42 x0 x6).f0]) (wrap64 (x6 + 1))) else (none)) else (monticuleref28_Needed.l0 k x0 x1 x5 (wrap64 (x6 + 1))))) else (none)) else (some x5)
def monticuleref28_Needed.f (k : Nat) (l0 : List (S42)) (a1 : ByteArray) : Option (List ByteArray) := monticuleref28_Needed.l0 k l0 a1 ([] : List ByteArray) 0
theorem monticuleref28_Needed.mono_l : ∀ k, (∀ y0 y1 y2 y3, LeO (monticuleref28_Needed.l0 k y0 y1 y2 y3) (monticuleref28_Needed.l0 (k + 1) y0 y1 y2 y3))
  | 0 => fun _ _ _ _ r h => by simp [monticuleref28_Needed.l0] at h
  | k + 1 => by
    have ih0 := monticuleref28_Needed.mono_l k
    · intro y0 y1 y2 y3
      unfold monticuleref28_Needed.l0
      repeat' first
      | (with_reducible exact ih0 _ _ _ _)
      | (with_reducible exact monticuleref06_In.mono _ _ _)
      | (with_reducible exact LeO.refl _)
      | (with_reducible exact LeO.none _)
      | (with_reducible refine LeO.ite ?_ ?_)
      | (with_reducible refine LeO.bind ?_ (fun _ => ?_))
      | exact ih0 _ _ _ _
      | exact monticuleref06_In.mono _ _ _
      | exact LeO.none _
      | refine LeO.ite ?_ ?_
      | refine LeO.bind ?_ (fun _ => ?_)
theorem monticuleref28_Needed.mono : ∀ a0 a1 k, LeO (monticuleref28_Needed.f k a0 a1) (monticuleref28_Needed.f (k + 1) a0 a1) := by
  intro a0 a1 k
  have ih0 := monticuleref28_Needed.mono_l k
  unfold monticuleref28_Needed.f
  repeat' first
      | (with_reducible exact ih0 _ _ _ _)
      | (with_reducible exact monticuleref06_In.mono _ _ _)
      | (with_reducible exact LeO.refl _)
      | (with_reducible exact LeO.none _)
      | (with_reducible refine LeO.ite ?_ ?_)
      | (with_reducible refine LeO.bind ?_ (fun _ => ?_))
      | exact ih0 _ _ _ _
      | exact monticuleref06_In.mono _ _ _
      | exact LeO.none _
      | refine LeO.ite ?_ ?_
      | refine LeO.bind ?_ (fun _ => ?_)
set_option maxHeartbeats 8000000 in
set_option maxRecDepth 100000 in
theorem monticuleref28_Needed.calls (k : Nat) (A0 : Option Addr) (c0 : Nat) (l0 : List (S42)) (a1 : ByteArray) (r : List ByteArray) (w : World) (hr0 : Kd.C k42 w A0 l0.length l0) (hc0 : l0.length ≤ c0) (h : monticuleref28_Needed.f k l0 a1 = some r) :
    Calls Tryd.prog 16 #[.slice A0 l0.length c0, .string a1] w fun e w' => ∃ v0_ : Value, e = .returned (v0_) ∧ Kd.R Kd.string 9 w' w.heap.size (fun _ => True) v0_ r ∧ Below w.heap.size w w' := by
  have HR0 := Aside0.mk hr0
  have HC0 := Aside0.mk hc0
  clear hr0 hc0
  have HB := Aside0.mk (Below.refl w.heap.size w)
  have H : (monticuleref28_Needed.l0 k l0 a1 ([] : List ByteArray) 0) = some r := h
  clear h
  have H' := Aside0.mk H
  clear H
  go_enter Tryd.func16, Tryd.ntmps16
  go_wp2
  go_loopg [5, 6] k (fun kq v5 v6 w' => ∃ (x5_1 : List ByteArray) (x6_1 : Int), v6 = .int .i64 x6_1 ∧ Aside0 (monticuleref28_Needed.l0 kq l0 a1 x5_1 x6_1 = some r) ∧ Aside0 (kq ≤ k) ∧ Aside0 (Kd.R Kd.string 9 w' w.heap.size (fun _ => True) v5 x5_1) ∧ Aside0 (Below w.heap.size w w'))
  case atStart => exact ⟨(([] : List ByteArray)), (0), (by first | rfl | (simp; done) | (simp [*]; done)), H', ⟨Nat.le_refl _⟩, ⟨by first | exact Kd.R_nil _ _ _ _ _ | exact Kd.N_nil _ _ _ _ _ | exact Kd.V_nil _ _ _ _ _ | exact Kd.Q_nil _ _ _ _ _ | exact Kd.S_nil _ _ _ _ _⟩, ⟨by repeat (first | (with_reducible first | exact HB.out | apply below_alloc | apply pw_below_drewN | apply below_drew1) | exact HB.out)⟩⟩
  case round =>
    clear H'
    try clear c1
    try clear p2
    obtain ⟨x5_1, x6_1, rfl, HA, HK1, HO_5, HB⟩ := hrel
    cases gk with
    | zero => exact absurd HA.out (by simp [monticuleref28_Needed.l0])
    | succ k1 =>
      have H := HA.out
      clear HA
      simp only [monticuleref28_Needed.l0] at H
      by_cases c3 : x6_1 < (l0.length : Int)
      · rw [if_pos c3] at H
        have c3b0 : decide (x6_1 < (l0.length : Int)) = true := decide_eq_true c3
        clear c3
        by_cases c4 : 0 ≤ x6_1
        · rw [if_pos c4] at H
          have c4b0 : decide (0 ≤ x6_1) = true := decide_eq_true c4
          clear c4
          replace H := Option.bind_eq_some_iff.mp H
          obtain ⟨t268, A50, H⟩ := H
          replace H : (if t268 = true then (if x5_1.length < 8796093022208 then (monticuleref28_Needed.l0 k1 l0 a1 (x5_1 ++ [(rd_T42 l0 x6_1).f0]) (wrap64 (x6_1 + 1))) else (none)) else (monticuleref28_Needed.l0 k1 l0 a1 x5_1 (wrap64 (x6_1 + 1)))) = some r := H
          have A5 := Aside0.mk A50
          clear A50
          by_cases c6 : t268 = true
          · subst c6
            have H1 : (if x5_1.length < 8796093022208 then (monticuleref28_Needed.l0 k1 l0 a1 (x5_1 ++ [(rd_T42 l0 x6_1).f0]) (wrap64 (x6_1 + 1))) else (none)) = some r := by rw [if_pos rfl] at H; exact H
            clear H
            have H := H1
            clear H1
            by_cases c7 : x5_1.length < 8796093022208
            · rw [if_pos c7] at H
              have LMc7 := Aside0.mk c7
              clear c7
              obtain ⟨y270, hy270⟩ : ∃ y_ : List ByteArray, y_ = (x5_1 ++ [(rd_T42 l0 x6_1).f0]) := ⟨_, rfl⟩
              replace H : (monticuleref28_Needed.l0 k1 l0 a1 y270 (wrap64 (x6_1 + 1))) = some r := by first | (rw [hy270]; with_reducible exact H) | (have H2_ := (Option.bind_some _ _).symm.trans H; rw [hy270]; with_reducible exact H2_) | (have H2_ := (Option.bind_some _ _).symm.trans H; with_reducible exact H2_) | with_reducible exact H | (rw [hy270]; exact H) | exact H
              have Ny270 := Aside0.mk hy270
              clear hy270
              have H' := Aside0.mk H
              clear H
              have p267 : 0 ≤ (x6_1 : Int) := of_decide_eq_true (by first | (with_reducible assumption) | assumption)
              have q267 : x6_1 < (l0.length : Int) := of_decide_eq_true (by first | (with_reducible assumption) | assumption)
              obtain ⟨ad267, A267_2, c267_2, A267_3, c267_3, e267, hx267_0, hx267_1, hx267_2, hx267_3, hl267_2, hi267_2, hl267_3, hi267_3⟩ := at_T42 HR0.out x6_1 p267 q267
              cases e267
              replace hx267_0 := (HB.out.cell (World.block_lt_of_cell? w _ hx267_0)).trans hx267_0
              replace hx267_1 := (HB.out.cell (World.block_lt_of_cell? w _ hx267_1)).trans hx267_1
              replace hx267_2 := (HB.out.cell (World.block_lt_of_cell? w _ hx267_2)).trans hx267_2
              replace hx267_3 := (HB.out.cell (World.block_lt_of_cell? w _ hx267_3)).trans hx267_3
              have HR267_2 := Aside0.mk hi267_2
              have HC267_2 := Aside0.mk hl267_2
              clear hi267_2 hl267_2
              have HR267_3 := Aside0.mk hi267_3
              have HC267_3 := Aside0.mk hl267_3
              clear hi267_3 hl267_3
              replace p267 := eq_true p267
              replace q267 := eq_true q267
              go_wp2_with (first | ((with_reducible refine gate_callee (f := 11) rfl ?_); refine goesL_ (some 19) rfl rfl Tryd.func11 (by kernel_rfl) rfl #[.slice A267_2 ((rd_T42 l0 x6_1).f2).length c267_2, .string a1] rfl (by (try simp only [List.map_toArray, List.map_cons, List.map_nil]); first | done | rfl | (simp only [List.length_drop, List.length_take]; rfl)) ?_; (with_reducible refine (monticuleref06_In.calls k1 _ _ ((rd_T42 l0 x6_1).f2) a1 true _ ?side1 ?side2 A5.out).mono ?_); (case side1 => repeat (first | exact (Kd.C_below HR267_2.out HB.out) | (with_reducible refine Kd.C_alloc ?_ _) | (with_reducible refine Kd.C_drewN ?_ _) | (with_reducible refine Kd.C_drew ?_))); (case side2 => exact HC267_2.out); rintro e w' ⟨rfl, ⟨nd, rfl⟩⟩; refine ⟨_, rfl, ?_⟩; have p269 : 0 ≤ (x6_1 : Int) := of_decide_eq_true (by first | (with_reducible assumption) | assumption); have q269 : x6_1 < (l0.length : Int) := of_decide_eq_true (by first | (with_reducible assumption) | assumption); obtain ⟨ad269, A269_2, c269_2, A269_3, c269_3, e269, hx269_0, hx269_1, hx269_2, hx269_3, hl269_2, hi269_2, hl269_3, hi269_3⟩ := at_T42 HR0.out x6_1 p269 q269; obtain rfl : ad267 = ad269 := (by injection e269); replace hx269_0 := (HB.out.cell (World.block_lt_of_cell? w _ hx269_0)).trans hx269_0; replace hx269_1 := (HB.out.cell (World.block_lt_of_cell? w _ hx269_1)).trans hx269_1; replace hx269_2 := (HB.out.cell (World.block_lt_of_cell? w _ hx269_2)).trans hx269_2; replace hx269_3 := (HB.out.cell (World.block_lt_of_cell? w _ hx269_3)).trans hx269_3; have HR269_2 := Aside0.mk hi269_2; have HC269_2 := Aside0.mk hl269_2; clear hi269_2 hl269_2; have HR269_3 := Aside0.mk hi269_3; have HC269_3 := Aside0.mk hl269_3; clear hi269_3 hl269_3; replace p269 := eq_true p269; replace q269 := eq_true q269; have ea_ := Option.some.inj (hx267_2.symm.trans hx269_2); injection ea_ with ea_ en_ ec_; subst ea_; subst ec_; clear en_; have ea_ := Option.some.inj (hx267_3.symm.trans hx269_3); injection ea_ with ea_ en_ ec_; subst ea_; subst ec_; clear en_) | ((with_reducible refine gate_builtin (b := .append) (xs := #[.tmp 20, .tmp 26]) rfl ?_); at_builtin; refine Kd.R_append Kd.string (w0 := w) w.heap.size rfl (.tmp 20) (.tmp 26) 22 9 (.string ⟨#[]⟩) 16 rfl Tryd.underlying22 info9 rfl (by decide) (by omega) u5 x5_1 ((rd_T42 l0 x6_1).f0) [.string ((rd_T42 l0 x6_1).f0)] (fun _ => True) (fun _ => False) rfl rfl ?aP (fun _ hk => hk.elim) ?aF ?aO ?aB ?aS ?aL ?_; (case aP => exact rfl); (case aB => exact (by repeat (first | (with_reducible first | exact HB.out | apply below_alloc | apply pw_below_drewN | apply below_drew1) | exact HB.out))); (case aF => exact (fun _ _ => trivial)); (case aO => exact (by (with_reducible repeat (first | apply Kd.R_alloc | apply Kd.R_drewN | apply Kd.R_drew)); exact HO_5.out)); (case aS => exact (below_size (by repeat (first | (with_reducible first | exact HB.out | apply below_alloc | apply pw_below_drewN | apply below_drew1) | exact HB.out)))); (case aL => have := LMc7.out; omega); intro v271 w8 ho hb hg hat; rw [← Ny270.out] at ho; have n0_ := Aside0.mk (hb); have n1_ := Aside0.mk (ho); clear HB; clear HO_5; have HB := n0_; have HO272 := n1_; clear n0_ n1_; clear ho hb hg hat))
              go_roundg k1
              case measure => have := HK1.out; omega
              case rel => exact ⟨(y270), (wrap64 (x6_1 + 1)), (by first | rfl | (simp; done) | (simp [*]; done)), H', ⟨by have := HK1.out; omega⟩, ⟨by (with_reducible repeat (first | apply Kd.R_alloc | apply Kd.R_drewN | apply Kd.R_drew)); exact HO272.out⟩, ⟨by repeat (first | (with_reducible first | exact HB.out | apply below_alloc | apply pw_below_drewN | apply below_drew1) | exact HB.out)⟩⟩
            · rw [if_neg c7] at H
              exact absurd H (by simp)
          · replace c6 := Bool.eq_false_iff.mpr c6
            subst c6
            have H1 : (monticuleref28_Needed.l0 k1 l0 a1 x5_1 (wrap64 (x6_1 + 1))) = some r := by rw [if_neg (show ¬ (false = true) by decide)] at H; exact H
            clear H
            have H := H1
            clear H1
            have H' := Aside0.mk H
            clear H
            have p267 : 0 ≤ (x6_1 : Int) := of_decide_eq_true (by first | (with_reducible assumption) | assumption)
            have q267 : x6_1 < (l0.length : Int) := of_decide_eq_true (by first | (with_reducible assumption) | assumption)
            obtain ⟨ad267, A267_2, c267_2, A267_3, c267_3, e267, hx267_0, hx267_1, hx267_2, hx267_3, hl267_2, hi267_2, hl267_3, hi267_3⟩ := at_T42 HR0.out x6_1 p267 q267
            cases e267
            replace hx267_0 := (HB.out.cell (World.block_lt_of_cell? w _ hx267_0)).trans hx267_0
            replace hx267_1 := (HB.out.cell (World.block_lt_of_cell? w _ hx267_1)).trans hx267_1
            replace hx267_2 := (HB.out.cell (World.block_lt_of_cell? w _ hx267_2)).trans hx267_2
            replace hx267_3 := (HB.out.cell (World.block_lt_of_cell? w _ hx267_3)).trans hx267_3
            have HR267_2 := Aside0.mk hi267_2
            have HC267_2 := Aside0.mk hl267_2
            clear hi267_2 hl267_2
            have HR267_3 := Aside0.mk hi267_3
            have HC267_3 := Aside0.mk hl267_3
            clear hi267_3 hl267_3
            replace p267 := eq_true p267
            replace q267 := eq_true q267
            go_wp2_with (first | ((with_reducible refine gate_callee (f := 11) rfl ?_); refine goesL_ (some 19) rfl rfl Tryd.func11 (by kernel_rfl) rfl #[.slice A267_2 ((rd_T42 l0 x6_1).f2).length c267_2, .string a1] rfl (by (try simp only [List.map_toArray, List.map_cons, List.map_nil]); first | done | rfl | (simp only [List.length_drop, List.length_take]; rfl)) ?_; (with_reducible refine (monticuleref06_In.calls k1 _ _ ((rd_T42 l0 x6_1).f2) a1 false _ ?side1 ?side2 A5.out).mono ?_); (case side1 => repeat (first | exact (Kd.C_below HR267_2.out HB.out) | (with_reducible refine Kd.C_alloc ?_ _) | (with_reducible refine Kd.C_drewN ?_ _) | (with_reducible refine Kd.C_drew ?_))); (case side2 => exact HC267_2.out); rintro e w' ⟨rfl, ⟨nd, rfl⟩⟩; refine ⟨_, rfl, ?_⟩))
            go_roundg k1
            case measure => have := HK1.out; omega
            case rel => exact ⟨(x5_1), (wrap64 (x6_1 + 1)), (by first | rfl | (simp; done) | (simp [*]; done)), H', ⟨by have := HK1.out; omega⟩, ⟨by (with_reducible repeat (first | apply Kd.R_alloc | apply Kd.R_drewN | apply Kd.R_drew)); exact HO_5.out⟩, ⟨by repeat (first | (with_reducible first | exact HB.out | apply below_alloc | apply pw_below_drewN | apply below_drew1) | exact HB.out)⟩⟩
        · rw [if_neg c4] at H
          exact absurd H (by simp)
      · rw [if_neg c3] at H
        have c3b0 : decide (x6_1 < (l0.length : Int)) = false := decide_eq_false c3
        clear c3
        obtain rfl := Option.some.inj H
        go_wp2
        go_ret
        exact ⟨_, by first | rfl | (simp [errW_none, errW_some] <;> rfl) | (simp [*, errW_none, errW_some] <;> rfl), by (with_reducible repeat (first | apply Kd.R_alloc | apply Kd.R_drewN | apply Kd.R_drew)); exact HO_5.out, by repeat (first | (with_reducible first | exact HB.out | apply below_alloc | apply pw_below_drewN | apply below_drew1) | exact HB.out)⟩

/-! ### plan_Closed: function 17 -/
namespace Hg
/-- Is a name one of those there? Has all that one needs its place? -/
def hasN (all : List S42) (n : ByteArray) : Bool := all.any fun k => k.f0.toList == n.toList
def lacks (all : List S42) (needs : List ByteArray) : Bool := needs.any fun n => !hasN all n
def closedB (all : List S42) : Bool := !(all.any fun l => lacks all l.f2)
theorem any_take {α : Type} {p : α → Bool} {l : List α} {x : Nat} (hx : x < l.length) (h : (l.take x).any p = false) (hn : p l[x] = false) : (l.take (x + 1)).any p = false := by
  rw [List.take_succ_eq_append_getElem hx, List.any_append, h, List.any_cons, List.any_nil, hn]
  rfl
theorem any_at {α : Type} {p : α → Bool} {l : List α} {x : Nat} (hx : x < l.length) (hn : p l[x] = true) : l.any p = true := List.any_eq_true.2 ⟨l[x], List.getElem_mem hx, hn⟩
theorem rdL_at (l : List S42) (x : Int) (hx : x.toNat < l.length) : rd_T42 l x = l[x.toNat] := by
  unfold rd_T42
  rw [List.getD_eq_getElem?_getD, List.getElem?_eq_getElem hx]
  rfl
theorem rdS_at (l : List ByteArray) (x : Int) (hx : x.toNat < l.length) : rdOf ByteArray.empty l x = l[x.toNat] := by
  unfold rdOf
  rw [List.getD_eq_getElem?_getD, List.getElem?_eq_getElem hx]
  rfl
set_option maxHeartbeats 16000000 in
set_option maxRecDepth 100000 in
theorem c3_calls (f0 : ByteArray) (f1 : Int) (A2 : Option Addr) (n2 c2 : Nat) (A3 : Option Addr) (n3 c3 : Nat) (gn : Nat) (n : ByteArray) (w0 W : World) (hn : w0.heap[gn]? = some (.cells #[.string n] 9 (0, 0))) (hB : Below w0.heap.size w0 W) :
    Calls Tryd.prog 32 #[.agg #[.string f0, .int .i64 f1, .slice A2 n2 c2, .slice A3 n3 c3], .pointer (some ⟨gn, 0, none⟩)] W fun e w' => e = .returned (.bool (f0.toList == n.toList)) ∧ Below W.heap.size W w' := by
  have hu := Tryd.underlying42
  have HB := Aside0.mk (Below.refl W.heap.size W)
  have HN := Aside0.mk (blk_below hn hB)
  have hczn_ : W.cell? ⟨gn, 0, none⟩ = some (.string n) := (blk_cell HN.out 0).trans rfl
  clear hn hB
  go_enter Tryd.func32, Tryd.ntmps32
  go_wp2_with (first | ((with_reducible refine gate_dst (N := 2) rfl ?_); refine box_event ?hg (N := 2) ?hd (cs := #[.string f0, .int .i64 f1, .slice A2 n2 c2, .slice A3 n3 c3]) (t := 42) ?hr ?_; (case hd => rfl); (case hg => rfl); (case hr => first | (go_simp; done) | (go_simp; rfl)); intro gk_ hg_ wk hbox hb; have n0_ := Aside0.mk (blk_below HN.out hb); have hcz_n : wk.cell? ⟨gn, 0, none⟩ = some (.string n) := (blk_cell n0_.out 0).trans rfl; have hcz_0 : wk.cell? ⟨gk_, 0, none⟩ = some (.string f0) := (blk_cell hbox 0).trans rfl; have n1_ := Aside0.mk (below_step HB.out hb); clear HB hbox hb hg_ hczn_ n0_; have HB := n1_; clear n1_))
  go_ret
  exact ⟨rfl, (by repeat (first | (with_reducible first | exact HB.out | apply below_alloc | apply pw_below_drewN | apply below_drew1) | exact HB.out))⟩
set_option maxHeartbeats 16000000 in
set_option maxRecDepth 100000 in
theorem idx3_calls (gn : Nat) (n : ByteArray) (Al : Option Addr) (cl : Nat) (all : List S42) (w0 W : World) (hn : w0.heap[gn]? = some (.cells #[.string n] 9 (0, 0))) (hl : Kd.C k42 w0 Al all.length all) (hll : all.length ≤ 1000000) (hB : Below w0.heap.size w0 W) :
    Calls Tryd.prog 41 #[.slice Al all.length cl, .func (.func 32) #[] #[.pointer (some ⟨gn, 0, none⟩)]] W fun e w' => (∃ r : Int, e = .returned (.int .i64 r) ∧ decide (0 ≤ r) = all.any (fun k => k.f0.toList == n.toList)) ∧ Below W.heap.size W w' := by
  have HB0 := Aside0.mk hB
  have HB := Aside0.mk (Below.refl W.heap.size W)
  have HL := Aside0.mk hl
  clear hl hB
  have HN := Aside0.mk hn
  clear hn
  go_enter Tryd.func41, Tryd.ntmps41
  go_wp2_with (fail)
  go_loopg [8] all.length (fun kq v8 w' => ∃ (x : Int), v8 = .int .i64 x ∧ 0 ≤ x ∧ x ≤ (all.length : Int) ∧ Aside0 ((kq : Int) + x = (all.length : Int)) ∧ Aside0 ((all.take x.toNat).any (fun k => k.f0.toList == n.toList) = false) ∧ Aside0 (Below W.heap.size W w'))
  case atStart => exact ⟨0, rfl, by omega, by omega, ⟨by omega⟩, ⟨rfl⟩, ⟨(by repeat (first | (with_reducible first | exact HB.out | apply below_alloc | apply pw_below_drewN | apply below_drew1) | exact HB.out))⟩⟩
  case round =>
    clear HB
    obtain ⟨x, rfl, p0_, p1_, HKQ, HT, HB⟩ := hrel
    have HBW := Aside0.mk (below_step HB0.out HB.out)
    by_cases hlt : x < (all.length : Int)
    · have c0 : decide (x < (all.length : Int)) = true := decide_eq_true hlt
      have hxl : x.toNat < all.length := by omega
      have HRD := Aside0.mk (rdL_at all x hxl)
      have HXL := Aside0.mk hxl
      obtain ⟨al, A2, c2, A3, c3, e_, q0, q1, q2, q3, hl2, hi2, hl3, hi3⟩ := at_T42 HL.out x p0_ hlt
      subst e_
      replace q0 := (HBW.out.cell (World.block_lt_of_cell? w0 _ q0)).trans q0
      replace q1 := (HBW.out.cell (World.block_lt_of_cell? w0 _ q1)).trans q1
      replace q2 := (HBW.out.cell (World.block_lt_of_cell? w0 _ q2)).trans q2
      replace q3 := (HBW.out.cell (World.block_lt_of_cell? w0 _ q3)).trans q3
      have HL2 := Aside0.mk hl2
      have HI2 := Aside0.mk hi2
      clear hl2 hi2 hl3 hi3
      have hw1 : wrap64 (x + 1) = x + 1 := IntWalk.wrap64_in (x + 1) (by omega)
      have P0 := Aside0.mk p0_
      have P1 := Aside0.mk hlt
      replace p0_ := eq_true p0_
      replace hlt := eq_true hlt
      clear p1_
      cases hcn : ((fun k => k.f0.toList == n.toList)) (rd_T42 all x) with
      | true =>
        have HP := Aside0.mk hcn
        clear hcn
        go_wp2_with (first | (go_at_call 32; (with_reducible refine (c3_calls (rd_T42 all x).f0 (rd_T42 all x).f1 A2 (rd_T42 all x).f2.length c2 A3 (rd_T42 all x).f3.length c3 gn n w0 _ HN.out ?sideB).mono ?_); (case sideB => exact below_step HB0.out (by repeat (first | (with_reducible first | exact HB.out | apply below_alloc | apply pw_below_drewN | apply below_drew1) | exact HB.out))); rintro er w1 ⟨rfl, hb_⟩; rw [show ((rd_T42 all x).f0.toList == n.toList) = _ from HP.out]; have n0_ := Aside0.mk (below_step (by repeat (first | (with_reducible first | exact HB.out | apply below_alloc | apply pw_below_drewN | apply below_drew1) | exact HB.out)) hb_); clear HB hb_; have HB := n0_; clear n0_))
        go_ret
        exact ⟨⟨x, rfl, by rw [any_at HXL.out (by rw [← HRD.out]; exact HP.out)]; exact decide_eq_true P0.out⟩, (by repeat (first | (with_reducible first | exact HB.out | apply below_alloc | apply pw_below_drewN | apply below_drew1) | exact HB.out))⟩
      | false =>
        have HP := Aside0.mk hcn
        clear hcn
        go_wp2_with (first | (go_at_call 32; (with_reducible refine (c3_calls (rd_T42 all x).f0 (rd_T42 all x).f1 A2 (rd_T42 all x).f2.length c2 A3 (rd_T42 all x).f3.length c3 gn n w0 _ HN.out ?sideB).mono ?_); (case sideB => exact below_step HB0.out (by repeat (first | (with_reducible first | exact HB.out | apply below_alloc | apply pw_below_drewN | apply below_drew1) | exact HB.out))); rintro er w1 ⟨rfl, hb_⟩; rw [show ((rd_T42 all x).f0.toList == n.toList) = _ from HP.out]; have n0_ := Aside0.mk (below_step (by repeat (first | (with_reducible first | exact HB.out | apply below_alloc | apply pw_below_drewN | apply below_drew1) | exact HB.out)) hb_); clear HB hb_; have HB := n0_; clear n0_))
        go_roundg (gk - 1)
        case measure => have := HKQ.out; have := P1.out; omega
        case rel => exact ⟨x + 1, (by first | rfl | rw [hw1]), by have := P0.out; omega, by have := P1.out; omega, ⟨by have := HKQ.out; have := P1.out; omega⟩, ⟨by
          rw [show (x + 1).toNat = x.toNat + 1 by have := P0.out; omega]
          exact any_take HXL.out HT.out (by rw [← HRD.out]; exact HP.out)⟩, ⟨(by repeat (first | (with_reducible first | exact HB.out | apply below_alloc | apply pw_below_drewN | apply below_drew1) | exact HB.out))⟩⟩
    · have c0 : decide (x < (all.length : Int)) = false := decide_eq_false hlt
      have hx : x.toNat = all.length := by omega
      go_wp2_with (fail)
      go_ret
      have h1 := HT.out
      rw [hx, List.take_length] at h1
      exact ⟨⟨-1, rfl, by rw [h1]; rfl⟩, (by repeat (first | (with_reducible first | exact HB.out | apply below_alloc | apply pw_below_drewN | apply below_drew1) | exact HB.out))⟩
set_option maxHeartbeats 16000000 in
set_option maxRecDepth 100000 in
theorem cont3_calls (gn : Nat) (n : ByteArray) (Al : Option Addr) (cl : Nat) (all : List S42) (w0 W : World) (hn : w0.heap[gn]? = some (.cells #[.string n] 9 (0, 0))) (hl : Kd.C k42 w0 Al all.length all) (hll : all.length ≤ 1000000) (hB : Below w0.heap.size w0 W) :
    Calls Tryd.prog 28 #[.slice Al all.length cl, .func (.func 32) #[] #[.pointer (some ⟨gn, 0, none⟩)]] W fun e w' => e = .returned (.bool (all.any (fun k => k.f0.toList == n.toList))) ∧ Below W.heap.size W w' := by
  have HB0 := Aside0.mk hB
  have HB := Aside0.mk (Below.refl W.heap.size W)
  have HL := Aside0.mk hl
  clear hl hB
  have HN := Aside0.mk hn
  clear hn
  go_enter Tryd.func28, Tryd.ntmps28
  go_wp2_with (first | (go_at_call 41; (with_reducible refine (idx3_calls gn n Al cl all w0 _ HN.out HL.out hll ?sideB).mono ?_); (case sideB => exact below_step HB0.out (by repeat (first | (with_reducible first | exact HB.out | apply below_alloc | apply pw_below_drewN | apply below_drew1) | exact HB.out))); rintro er w1 ⟨⟨r_, rfl, hr_⟩, hb_⟩; have n0_ := Aside0.mk (below_step (by repeat (first | (with_reducible first | exact HB.out | apply below_alloc | apply pw_below_drewN | apply below_drew1) | exact HB.out)) hb_); clear HB hb_; have HB := n0_; clear n0_))
  go_ret
  exact ⟨by first | (rw [← hr_]; rfl) | rfl, (by repeat (first | (with_reducible first | exact HB.out | apply below_alloc | apply pw_below_drewN | apply below_drew1) | exact HB.out))⟩
set_option maxHeartbeats 16000000 in
set_option maxRecDepth 100000 in
theorem c2_calls (Aa : Option Addr) (ca : Nat) (all : List S42) (ga : Nat) (n : ByteArray) (w0 W : World) (hC : Kd.C k42 w0 Aa all.length all) (hal : all.length ≤ 1000000) (hg : w0.heap[ga]? = some (.cells #[.slice Aa all.length ca] 40 (0, 0))) (hB : Below w0.heap.size w0 W) :
    Calls Tryd.prog 31 #[.string n, .pointer (some ⟨ga, 0, none⟩)] W fun e w' => e = .returned (.bool (!hasN all n)) ∧ Below W.heap.size W w' := by
  have HB0 := Aside0.mk hB
  have HB := Aside0.mk (Below.refl W.heap.size W)
  clear hB
  have HC := Aside0.mk hC
  have HAL := Aside0.mk hal
  have HG := Aside0.mk hg
  clear hC hal hg
  go_enter Tryd.func31, Tryd.ntmps31
  go_wp2_with (first | ((with_reducible refine gate_dst (N := 2) rfl ?_); refine box_event ?hg (N := 2) ?hd (cs := #[.string n]) (t := 9) ?hr ?_; (case hd => rfl); (case hg => rfl); (case hr => first | (go_simp; done) | (go_simp; rfl)); intro gn hg_ wk hbox hb; have n0_ := Aside0.mk (below_step HB.out hb); have HN := Aside0.mk hbox; clear HB hbox hb hg_; have HB := n0_; clear n0_; have hcz_a : wk.cell? ⟨ga, 0, none⟩ = some (.slice Aa all.length ca) := (blk_cell (blk_below HG.out (below_step HB0.out HB.out)) 0).trans rfl) | (go_at_call 28; (with_reducible refine (cont3_calls gn n Aa ca all wk _ HN.out (Kd.C_below HC.out (below_step HB0.out HB.out)) HAL.out ?sideB).mono ?_); (case sideB => exact (by repeat (first | (with_reducible first | exact Below.refl _ _ | apply pw_below_drewN | apply below_drew1) | exact Below.refl _ _))); rintro er w1 ⟨rfl, hb_⟩; have n0_ := Aside0.mk (below_step (by repeat (first | (with_reducible first | exact HB.out | apply below_alloc | apply pw_below_drewN | apply below_drew1) | exact HB.out)) hb_); clear HB hb_; have HB := n0_; clear n0_))
  go_ret
  exact ⟨rfl, (by repeat (first | (with_reducible first | exact HB.out | apply below_alloc | apply pw_below_drewN | apply below_drew1) | exact HB.out))⟩
set_option maxHeartbeats 16000000 in
set_option maxRecDepth 100000 in
theorem idx2_calls (Aa : Option Addr) (ca : Nat) (all : List S42) (ga : Nat) (Al : Option Addr) (cl : Nat) (needs : List ByteArray) (w0 W : World) (hC : Kd.C k42 w0 Aa all.length all) (hal : all.length ≤ 1000000) (hg : w0.heap[ga]? = some (.cells #[.slice Aa all.length ca] 40 (0, 0))) (hl : Kd.C Kd.string w0 Al needs.length needs) (hll : needs.length ≤ 1000000) (hB : Below w0.heap.size w0 W) :
    Calls Tryd.prog 42 #[.slice Al needs.length cl, .func (.func 31) #[] #[.pointer (some ⟨ga, 0, none⟩)]] W fun e w' => (∃ r : Int, e = .returned (.int .i64 r) ∧ decide (0 ≤ r) = needs.any (fun n => !hasN all n)) ∧ Below W.heap.size W w' := by
  have HB0 := Aside0.mk hB
  have HB := Aside0.mk (Below.refl W.heap.size W)
  have HL := Aside0.mk hl
  clear hl hB
  have HC := Aside0.mk hC
  have HAL := Aside0.mk hal
  have HG := Aside0.mk hg
  clear hC hal hg
  go_enter Tryd.func42, Tryd.ntmps42
  go_wp2_with (fail)
  go_loopg [8] needs.length (fun kq v8 w' => ∃ (x : Int), v8 = .int .i64 x ∧ 0 ≤ x ∧ x ≤ (needs.length : Int) ∧ Aside0 ((kq : Int) + x = (needs.length : Int)) ∧ Aside0 ((needs.take x.toNat).any (fun n => !hasN all n) = false) ∧ Aside0 (Below W.heap.size W w'))
  case atStart => exact ⟨0, rfl, by omega, by omega, ⟨by omega⟩, ⟨rfl⟩, ⟨(by repeat (first | (with_reducible first | exact HB.out | apply below_alloc | apply pw_below_drewN | apply below_drew1) | exact HB.out))⟩⟩
  case round =>
    clear HB
    obtain ⟨x, rfl, p0_, p1_, HKQ, HT, HB⟩ := hrel
    have HBW := Aside0.mk (below_step HB0.out HB.out)
    by_cases hlt : x < (needs.length : Int)
    · have c0 : decide (x < (needs.length : Int)) = true := decide_eq_true hlt
      have hxl : x.toNat < needs.length := by omega
      have HRD := Aside0.mk (rdS_at needs x hxl)
      have HXL := Aside0.mk hxl
      obtain ⟨al, e_, q0⟩ := Kd.at_string HL.out x p0_ hlt
      subst e_
      replace q0 := (HBW.out.cell (World.block_lt_of_cell? w0 _ q0)).trans q0
      have hw1 : wrap64 (x + 1) = x + 1 := IntWalk.wrap64_in (x + 1) (by omega)
      have P0 := Aside0.mk p0_
      have P1 := Aside0.mk hlt
      replace p0_ := eq_true p0_
      replace hlt := eq_true hlt
      clear p1_
      cases hcn : ((fun n => !hasN all n)) (rdOf ByteArray.empty needs x) with
      | true =>
        have HP := Aside0.mk hcn
        clear hcn
        go_wp2_with (first | (go_at_call 31; (with_reducible refine (c2_calls Aa ca all ga (rdOf ByteArray.empty needs x) w0 _ HC.out HAL.out HG.out ?sideB).mono ?_); (case sideB => exact below_step HB0.out (by repeat (first | (with_reducible first | exact HB.out | apply below_alloc | apply pw_below_drewN | apply below_drew1) | exact HB.out))); rintro er w1 ⟨rfl, hb_⟩; rw [show (!hasN all (rdOf ByteArray.empty needs x)) = _ from HP.out]; have n0_ := Aside0.mk (below_step (by repeat (first | (with_reducible first | exact HB.out | apply below_alloc | apply pw_below_drewN | apply below_drew1) | exact HB.out)) hb_); clear HB hb_; have HB := n0_; clear n0_))
        go_ret
        exact ⟨⟨x, rfl, by rw [any_at HXL.out (by rw [← HRD.out]; exact HP.out)]; exact decide_eq_true P0.out⟩, (by repeat (first | (with_reducible first | exact HB.out | apply below_alloc | apply pw_below_drewN | apply below_drew1) | exact HB.out))⟩
      | false =>
        have HP := Aside0.mk hcn
        clear hcn
        go_wp2_with (first | (go_at_call 31; (with_reducible refine (c2_calls Aa ca all ga (rdOf ByteArray.empty needs x) w0 _ HC.out HAL.out HG.out ?sideB).mono ?_); (case sideB => exact below_step HB0.out (by repeat (first | (with_reducible first | exact HB.out | apply below_alloc | apply pw_below_drewN | apply below_drew1) | exact HB.out))); rintro er w1 ⟨rfl, hb_⟩; rw [show (!hasN all (rdOf ByteArray.empty needs x)) = _ from HP.out]; have n0_ := Aside0.mk (below_step (by repeat (first | (with_reducible first | exact HB.out | apply below_alloc | apply pw_below_drewN | apply below_drew1) | exact HB.out)) hb_); clear HB hb_; have HB := n0_; clear n0_))
        go_roundg (gk - 1)
        case measure => have := HKQ.out; have := P1.out; omega
        case rel => exact ⟨x + 1, (by first | rfl | rw [hw1]), by have := P0.out; omega, by have := P1.out; omega, ⟨by have := HKQ.out; have := P1.out; omega⟩, ⟨by
          rw [show (x + 1).toNat = x.toNat + 1 by have := P0.out; omega]
          exact any_take HXL.out HT.out (by rw [← HRD.out]; exact HP.out)⟩, ⟨(by repeat (first | (with_reducible first | exact HB.out | apply below_alloc | apply pw_below_drewN | apply below_drew1) | exact HB.out))⟩⟩
    · have c0 : decide (x < (needs.length : Int)) = false := decide_eq_false hlt
      have hx : x.toNat = needs.length := by omega
      go_wp2_with (fail)
      go_ret
      have h1 := HT.out
      rw [hx, List.take_length] at h1
      exact ⟨⟨-1, rfl, by rw [h1]; rfl⟩, (by repeat (first | (with_reducible first | exact HB.out | apply below_alloc | apply pw_below_drewN | apply below_drew1) | exact HB.out))⟩
set_option maxHeartbeats 16000000 in
set_option maxRecDepth 100000 in
theorem cont2_calls (Aa : Option Addr) (ca : Nat) (all : List S42) (ga : Nat) (Al : Option Addr) (cl : Nat) (needs : List ByteArray) (w0 W : World) (hC : Kd.C k42 w0 Aa all.length all) (hal : all.length ≤ 1000000) (hg : w0.heap[ga]? = some (.cells #[.slice Aa all.length ca] 40 (0, 0))) (hl : Kd.C Kd.string w0 Al needs.length needs) (hll : needs.length ≤ 1000000) (hB : Below w0.heap.size w0 W) :
    Calls Tryd.prog 30 #[.slice Al needs.length cl, .func (.func 31) #[] #[.pointer (some ⟨ga, 0, none⟩)]] W fun e w' => e = .returned (.bool (needs.any (fun n => !hasN all n))) ∧ Below W.heap.size W w' := by
  have HB0 := Aside0.mk hB
  have HB := Aside0.mk (Below.refl W.heap.size W)
  have HL := Aside0.mk hl
  clear hl hB
  have HC := Aside0.mk hC
  have HAL := Aside0.mk hal
  have HG := Aside0.mk hg
  clear hC hal hg
  go_enter Tryd.func30, Tryd.ntmps30
  go_wp2_with (first | (go_at_call 42; (with_reducible refine (idx2_calls Aa ca all ga Al cl needs w0 _ HC.out HAL.out HG.out HL.out hll ?sideB).mono ?_); (case sideB => exact below_step HB0.out (by repeat (first | (with_reducible first | exact HB.out | apply below_alloc | apply pw_below_drewN | apply below_drew1) | exact HB.out))); rintro er w1 ⟨⟨r_, rfl, hr_⟩, hb_⟩; have n0_ := Aside0.mk (below_step (by repeat (first | (with_reducible first | exact HB.out | apply below_alloc | apply pw_below_drewN | apply below_drew1) | exact HB.out)) hb_); clear HB hb_; have HB := n0_; clear n0_))
  go_ret
  exact ⟨by first | (rw [← hr_]; rfl) | rfl, (by repeat (first | (with_reducible first | exact HB.out | apply below_alloc | apply pw_below_drewN | apply below_drew1) | exact HB.out))⟩
set_option maxHeartbeats 16000000 in
set_option maxRecDepth 100000 in
theorem c1_calls (Aa : Option Addr) (ca : Nat) (all : List S42) (ga : Nat) (f0 : ByteArray) (f1 : Int) (A2 : Option Addr) (c2 : Nat) (needs : List ByteArray) (A3 : Option Addr) (n3 c3 : Nat) (w0 W : World) (hC : Kd.C k42 w0 Aa all.length all) (hal : all.length ≤ 1000000) (hg : w0.heap[ga]? = some (.cells #[.slice Aa all.length ca] 40 (0, 0))) (hr : Kd.C Kd.string w0 A2 needs.length needs) (hnl : needs.length ≤ 1000000) (hB : Below w0.heap.size w0 W) :
    Calls Tryd.prog 29 #[.agg #[.string f0, .int .i64 f1, .slice A2 needs.length c2, .slice A3 n3 c3], .pointer (some ⟨ga, 0, none⟩)] W fun e w' => e = .returned (.bool (lacks all needs)) ∧ Below W.heap.size W w' := by
  have hu := Tryd.underlying42
  have HB0 := Aside0.mk hB
  have HB := Aside0.mk (Below.refl W.heap.size W)
  have HR := Aside0.mk hr
  clear hB hr
  have HC := Aside0.mk hC
  have HAL := Aside0.mk hal
  have HG := Aside0.mk hg
  clear hC hal hg
  go_enter Tryd.func29, Tryd.ntmps29
  go_wp2_with (first | ((with_reducible refine gate_dst (N := 2) rfl ?_); refine box_event ?hg (N := 2) ?hd (cs := #[.string f0, .int .i64 f1, .slice A2 needs.length c2, .slice A3 n3 c3]) (t := 42) ?hr ?_; (case hd => rfl); (case hg => rfl); (case hr => first | (go_simp; done) | (go_simp; rfl)); intro gl hg_ wk hbox hb; have hcz_2 : wk.cell? ⟨gl, 2, none⟩ = some (.slice A2 needs.length c2) := (blk_cell hbox 2).trans rfl; have n0_ := Aside0.mk (below_step HB.out hb); clear HB hbox hb hg_; have HB := n0_; clear n0_) | (go_at_call 30; (with_reducible refine (cont2_calls Aa ca all ga A2 c2 needs w0 _ HC.out HAL.out HG.out HR.out hnl ?sideB).mono ?_); (case sideB => exact below_step HB0.out (by repeat (first | (with_reducible first | exact HB.out | apply below_alloc | apply pw_below_drewN | apply below_drew1) | exact HB.out))); rintro er w1 ⟨rfl, hb_⟩; have n0_ := Aside0.mk (below_step (by repeat (first | (with_reducible first | exact HB.out | apply below_alloc | apply pw_below_drewN | apply below_drew1) | exact HB.out)) hb_); clear HB hb_; have HB := n0_; clear n0_))
  go_ret
  exact ⟨rfl, (by repeat (first | (with_reducible first | exact HB.out | apply below_alloc | apply pw_below_drewN | apply below_drew1) | exact HB.out))⟩
set_option maxHeartbeats 16000000 in
set_option maxRecDepth 100000 in
theorem idx1_calls (Aa : Option Addr) (ca : Nat) (all : List S42) (ga : Nat) (Al : Option Addr) (cl : Nat) (w0 W : World) (hC : Kd.C k42 w0 Aa all.length all) (hal : all.length ≤ 1000000) (hg : w0.heap[ga]? = some (.cells #[.slice Aa all.length ca] 40 (0, 0))) (hns : ∀ x ∈ all, x.f2.length ≤ 1000000) (hl : Kd.C k42 w0 Al all.length all) (hll : all.length ≤ 1000000) (hB : Below w0.heap.size w0 W) :
    Calls Tryd.prog 41 #[.slice Al all.length cl, .func (.func 29) #[] #[.pointer (some ⟨ga, 0, none⟩)]] W fun e w' => (∃ r : Int, e = .returned (.int .i64 r) ∧ decide (0 ≤ r) = all.any (fun l => lacks all l.f2)) ∧ Below W.heap.size W w' := by
  have HB0 := Aside0.mk hB
  have HB := Aside0.mk (Below.refl W.heap.size W)
  have HL := Aside0.mk hl
  clear hl hB
  have HC := Aside0.mk hC
  have HAL := Aside0.mk hal
  have HG := Aside0.mk hg
  clear hC hal hg
  have HNS := Aside0.mk hns
  clear hns
  go_enter Tryd.func41, Tryd.ntmps41
  go_wp2_with (fail)
  go_loopg [8] all.length (fun kq v8 w' => ∃ (x : Int), v8 = .int .i64 x ∧ 0 ≤ x ∧ x ≤ (all.length : Int) ∧ Aside0 ((kq : Int) + x = (all.length : Int)) ∧ Aside0 ((all.take x.toNat).any (fun l => lacks all l.f2) = false) ∧ Aside0 (Below W.heap.size W w'))
  case atStart => exact ⟨0, rfl, by omega, by omega, ⟨by omega⟩, ⟨rfl⟩, ⟨(by repeat (first | (with_reducible first | exact HB.out | apply below_alloc | apply pw_below_drewN | apply below_drew1) | exact HB.out))⟩⟩
  case round =>
    clear HB
    obtain ⟨x, rfl, p0_, p1_, HKQ, HT, HB⟩ := hrel
    have HBW := Aside0.mk (below_step HB0.out HB.out)
    by_cases hlt : x < (all.length : Int)
    · have c0 : decide (x < (all.length : Int)) = true := decide_eq_true hlt
      have hxl : x.toNat < all.length := by omega
      have HRD := Aside0.mk (rdL_at all x hxl)
      have HXL := Aside0.mk hxl
      obtain ⟨al, A2, c2, A3, c3, e_, q0, q1, q2, q3, hl2, hi2, hl3, hi3⟩ := at_T42 HL.out x p0_ hlt
      subst e_
      replace q0 := (HBW.out.cell (World.block_lt_of_cell? w0 _ q0)).trans q0
      replace q1 := (HBW.out.cell (World.block_lt_of_cell? w0 _ q1)).trans q1
      replace q2 := (HBW.out.cell (World.block_lt_of_cell? w0 _ q2)).trans q2
      replace q3 := (HBW.out.cell (World.block_lt_of_cell? w0 _ q3)).trans q3
      have HL2 := Aside0.mk hl2
      have HI2 := Aside0.mk hi2
      clear hl2 hi2 hl3 hi3
      have hw1 : wrap64 (x + 1) = x + 1 := IntWalk.wrap64_in (x + 1) (by omega)
      have P0 := Aside0.mk p0_
      have P1 := Aside0.mk hlt
      replace p0_ := eq_true p0_
      replace hlt := eq_true hlt
      clear p1_
      cases hcn : ((fun l => lacks all l.f2)) (rd_T42 all x) with
      | true =>
        have HP := Aside0.mk hcn
        clear hcn
        go_wp2_with (first | (go_at_call 29; (with_reducible refine (c1_calls Aa ca all ga (rd_T42 all x).f0 (rd_T42 all x).f1 A2 c2 (rd_T42 all x).f2 A3 (rd_T42 all x).f3.length c3 w0 _ HC.out HAL.out HG.out HI2.out (by rw [HRD.out]; exact HNS.out _ (List.getElem_mem _)) ?sideB).mono ?_); (case sideB => exact below_step HB0.out (by repeat (first | (with_reducible first | exact HB.out | apply below_alloc | apply pw_below_drewN | apply below_drew1) | exact HB.out))); rintro er w1 ⟨rfl, hb_⟩; rw [show lacks all (rd_T42 all x).f2 = _ from HP.out]; have n0_ := Aside0.mk (below_step (by repeat (first | (with_reducible first | exact HB.out | apply below_alloc | apply pw_below_drewN | apply below_drew1) | exact HB.out)) hb_); clear HB hb_; have HB := n0_; clear n0_))
        go_ret
        exact ⟨⟨x, rfl, by rw [any_at HXL.out (by rw [← HRD.out]; exact HP.out)]; exact decide_eq_true P0.out⟩, (by repeat (first | (with_reducible first | exact HB.out | apply below_alloc | apply pw_below_drewN | apply below_drew1) | exact HB.out))⟩
      | false =>
        have HP := Aside0.mk hcn
        clear hcn
        go_wp2_with (first | (go_at_call 29; (with_reducible refine (c1_calls Aa ca all ga (rd_T42 all x).f0 (rd_T42 all x).f1 A2 c2 (rd_T42 all x).f2 A3 (rd_T42 all x).f3.length c3 w0 _ HC.out HAL.out HG.out HI2.out (by rw [HRD.out]; exact HNS.out _ (List.getElem_mem _)) ?sideB).mono ?_); (case sideB => exact below_step HB0.out (by repeat (first | (with_reducible first | exact HB.out | apply below_alloc | apply pw_below_drewN | apply below_drew1) | exact HB.out))); rintro er w1 ⟨rfl, hb_⟩; rw [show lacks all (rd_T42 all x).f2 = _ from HP.out]; have n0_ := Aside0.mk (below_step (by repeat (first | (with_reducible first | exact HB.out | apply below_alloc | apply pw_below_drewN | apply below_drew1) | exact HB.out)) hb_); clear HB hb_; have HB := n0_; clear n0_))
        go_roundg (gk - 1)
        case measure => have := HKQ.out; have := P1.out; omega
        case rel => exact ⟨x + 1, (by first | rfl | rw [hw1]), by have := P0.out; omega, by have := P1.out; omega, ⟨by have := HKQ.out; have := P1.out; omega⟩, ⟨by
          rw [show (x + 1).toNat = x.toNat + 1 by have := P0.out; omega]
          exact any_take HXL.out HT.out (by rw [← HRD.out]; exact HP.out)⟩, ⟨(by repeat (first | (with_reducible first | exact HB.out | apply below_alloc | apply pw_below_drewN | apply below_drew1) | exact HB.out))⟩⟩
    · have c0 : decide (x < (all.length : Int)) = false := decide_eq_false hlt
      have hx : x.toNat = all.length := by omega
      go_wp2_with (fail)
      go_ret
      have h1 := HT.out
      rw [hx, List.take_length] at h1
      exact ⟨⟨-1, rfl, by rw [h1]; rfl⟩, (by repeat (first | (with_reducible first | exact HB.out | apply below_alloc | apply pw_below_drewN | apply below_drew1) | exact HB.out))⟩
set_option maxHeartbeats 16000000 in
set_option maxRecDepth 100000 in
theorem cont1_calls (Aa : Option Addr) (ca : Nat) (all : List S42) (ga : Nat) (Al : Option Addr) (cl : Nat) (w0 W : World) (hC : Kd.C k42 w0 Aa all.length all) (hal : all.length ≤ 1000000) (hg : w0.heap[ga]? = some (.cells #[.slice Aa all.length ca] 40 (0, 0))) (hns : ∀ x ∈ all, x.f2.length ≤ 1000000) (hl : Kd.C k42 w0 Al all.length all) (hll : all.length ≤ 1000000) (hB : Below w0.heap.size w0 W) :
    Calls Tryd.prog 28 #[.slice Al all.length cl, .func (.func 29) #[] #[.pointer (some ⟨ga, 0, none⟩)]] W fun e w' => e = .returned (.bool (all.any (fun l => lacks all l.f2))) ∧ Below W.heap.size W w' := by
  have HB0 := Aside0.mk hB
  have HB := Aside0.mk (Below.refl W.heap.size W)
  have HL := Aside0.mk hl
  clear hl hB
  have HC := Aside0.mk hC
  have HAL := Aside0.mk hal
  have HG := Aside0.mk hg
  clear hC hal hg
  have HNS := Aside0.mk hns
  clear hns
  go_enter Tryd.func28, Tryd.ntmps28
  go_wp2_with (first | (go_at_call 41; (with_reducible refine (idx1_calls Aa ca all ga Al cl w0 _ HC.out HAL.out HG.out HNS.out HL.out hll ?sideB).mono ?_); (case sideB => exact below_step HB0.out (by repeat (first | (with_reducible first | exact HB.out | apply below_alloc | apply pw_below_drewN | apply below_drew1) | exact HB.out))); rintro er w1 ⟨⟨r_, rfl, hr_⟩, hb_⟩; have n0_ := Aside0.mk (below_step (by repeat (first | (with_reducible first | exact HB.out | apply below_alloc | apply pw_below_drewN | apply below_drew1) | exact HB.out)) hb_); clear HB hb_; have HB := n0_; clear n0_))
  go_ret
  exact ⟨by first | (rw [← hr_]; rfl) | rfl, (by repeat (first | (with_reducible first | exact HB.out | apply below_alloc | apply pw_below_drewN | apply below_drew1) | exact HB.out))⟩
set_option maxHeartbeats 16000000 in
set_option maxRecDepth 100000 in
theorem closed_calls (Aa : Option Addr) (ca : Nat) (all : List S42) (w : World) (hC : Kd.C k42 w Aa all.length all) (hal : all.length ≤ 1000000) (hns : ∀ x ∈ all, x.f2.length ≤ 1000000) :
    Calls Tryd.prog 17 #[.slice Aa all.length ca] w fun e w' => e = .returned (.bool (closedB all)) ∧ Below w.heap.size w w' := by
  have HC := Aside0.mk hC
  have HAL := Aside0.mk hal
  have HNS := Aside0.mk hns
  have HB := Aside0.mk (Below.refl w.heap.size w)
  clear hC hal hns
  go_enter Tryd.func17, Tryd.ntmps17
  go_wp2_with (first | ((with_reducible refine gate_dst (N := 1) rfl ?_); refine box_event ?hg (N := 1) ?hd (cs := #[.slice Aa all.length ca]) (t := 40) ?hr ?_; (case hd => rfl); (case hg => rfl); (case hr => first | (go_simp; done) | (go_simp; rfl)); intro ga hg_ wk hbox hb; have n0_ := Aside0.mk (below_step HB.out hb); have HG := Aside0.mk hbox; clear HB hbox hb hg_; have HB := n0_; clear n0_; have hcz_a : wk.cell? ⟨ga, 0, none⟩ = some (.slice Aa all.length ca) := (blk_cell HG.out 0).trans rfl) | (go_at_call 28; (with_reducible refine (cont1_calls Aa ca all ga Aa ca wk _ (Kd.C_below HC.out HB.out) HAL.out HG.out HNS.out (Kd.C_below HC.out HB.out) HAL.out ?sideB).mono ?_); (case sideB => exact (by repeat (first | (with_reducible first | exact Below.refl _ _ | apply pw_below_drewN | apply below_drew1) | exact Below.refl _ _))); rintro er w1 ⟨rfl, hb_⟩; have n0_ := Aside0.mk (below_step (by repeat (first | (with_reducible first | exact HB.out | apply below_alloc | apply pw_below_drewN | apply below_drew1) | exact HB.out)) hb_); clear HB hb_; have HB := n0_; clear n0_))
  go_ret
  exact ⟨rfl, (by repeat (first | (with_reducible first | exact HB.out | apply below_alloc | apply pw_below_drewN | apply below_drew1) | exact HB.out))⟩
end Hg
def plan_Closed.f (l0 : List S42) : Option Bool := if (decide (l0.length ≤ 1000000) && l0.all fun x => decide (x.f2.length ≤ 1000000)) = true then some (Hg.closedB l0) else none
theorem plan_Closed.calls (A0 : Option Addr) (c0 : Nat) (l0 : List S42) (r : Bool) (w : World) (hr0 : Kd.C k42 w A0 l0.length l0) (hc0 : l0.length ≤ c0) (h : plan_Closed.f l0 = some r) :
    Calls Tryd.prog 17 #[.slice A0 l0.length c0] w fun e w' => e = .returned (.bool r) ∧ Below w.heap.size w w' := by
  unfold plan_Closed.f at h
  by_cases hs : (decide (l0.length ≤ 1000000) && l0.all fun x => decide (x.f2.length ≤ 1000000)) = true
  · rw [if_pos hs] at h
    simp only [Bool.and_eq_true, decide_eq_true_eq, List.all_eq_true] at hs
    obtain rfl := Option.some.inj h
    exact Hg.closed_calls A0 c0 l0 w hr0 hs.1 hs.2
  · rw [if_neg hs] at h
    cases h


/-! ### monticuleref28_Closed: function 18 -/
mutual
def monticuleref28_Closed.l0 : Nat → List (S42) → List ByteArray → Int → Option (Bool)
  | 0, _, _, _ => none
  | k + 1, x0, x3, x4 => if x4 < (x0.length : Int) then (if 0 ≤ x4 then (if x3.length < 8796093022208 then (monticuleref28_Closed.l0 k x0 (x3 ++ [(rd_T42 x0 x4).f0]) (wrap64 (x4 + 1))) else (none)) else (none)) else (monticuleref28_Closed.l1 k x0 x3 0)
def monticuleref28_Closed.l1 : Nat → List (S42) → List ByteArray → Int → Option (Bool)
  | 0, _, _, _ => none
  | k + 1, x0, x3, x5 => if x5 < (x0.length : Int) then (monticuleref28_Closed.l2 k x0 x3 x5 0) else (some true)
def monticuleref28_Closed.l2 : Nat → List (S42) → List ByteArray → Int → Int → Option (Bool)
  | 0, _, _, _, _ => none
  | k + 1, x0, x3, x5, x6 => if 0 ≤ x5 then (if x5 < (x0.length : Int) then (if x6 < (((rd_T42 x0 x5).f2).length : Int) then (if 0 ≤ x6 then ((monticuleref06_In.f k x3 (rdOf ByteArray.empty ((rd_T42 x0 x5).f2) x6)).bind fun t280 => (if t280 = true then (monticuleref28_Closed.l2 k x0 x3 x5 (wrap64 (x6 + 1))) else (some false))) else (none)) else (monticuleref28_Closed.l1 k x0 x3 (wrap64 (x5 + 1)))) else (none)) else (none)
end
def monticuleref28_Closed.f (k : Nat) (l0 : List (S42)) : Option (Bool) := monticuleref28_Closed.l0 k l0 ([] : List ByteArray) 0
theorem monticuleref28_Closed.mono_l : ∀ k, (∀ y0 y1 y2, LeO (monticuleref28_Closed.l0 k y0 y1 y2) (monticuleref28_Closed.l0 (k + 1) y0 y1 y2)) ∧ (∀ y0 y1 y2, LeO (monticuleref28_Closed.l1 k y0 y1 y2) (monticuleref28_Closed.l1 (k + 1) y0 y1 y2)) ∧ (∀ y0 y1 y2 y3, LeO (monticuleref28_Closed.l2 k y0 y1 y2 y3) (monticuleref28_Closed.l2 (k + 1) y0 y1 y2 y3))
  | 0 => ⟨fun _ _ _ r h => by simp [monticuleref28_Closed.l0] at h, fun _ _ _ r h => by simp [monticuleref28_Closed.l1] at h, fun _ _ _ _ r h => by simp [monticuleref28_Closed.l2] at h⟩
  | k + 1 => by
    obtain ⟨ih0, ih1, ih2⟩ := monticuleref28_Closed.mono_l k
    refine ⟨?_, ?_, ?_⟩
    · intro y0 y1 y2
      unfold monticuleref28_Closed.l0
      repeat' first
      | (with_reducible exact ih0 _ _ _)
      | (with_reducible exact ih1 _ _ _)
      | (with_reducible exact ih2 _ _ _ _)
      | (with_reducible exact monticuleref06_In.mono _ _ _)
      | (with_reducible exact LeO.refl _)
      | (with_reducible exact LeO.none _)
      | (with_reducible refine LeO.ite ?_ ?_)
      | (with_reducible refine LeO.bind ?_ (fun _ => ?_))
      | exact ih0 _ _ _
      | exact ih1 _ _ _
      | exact ih2 _ _ _ _
      | exact monticuleref06_In.mono _ _ _
      | exact LeO.none _
      | refine LeO.ite ?_ ?_
      | refine LeO.bind ?_ (fun _ => ?_)
    · intro y0 y1 y2
      unfold monticuleref28_Closed.l1
      repeat' first
      | (with_reducible exact ih0 _ _ _)
      | (with_reducible exact ih1 _ _ _)
      | (with_reducible exact ih2 _ _ _ _)
      | (with_reducible exact monticuleref06_In.mono _ _ _)
      | (with_reducible exact LeO.refl _)
      | (with_reducible exact LeO.none _)
      | (with_reducible refine LeO.ite ?_ ?_)
      | (with_reducible refine LeO.bind ?_ (fun _ => ?_))
      | exact ih0 _ _ _
      | exact ih1 _ _ _
      | exact ih2 _ _ _ _
      | exact monticuleref06_In.mono _ _ _
      | exact LeO.none _
      | refine LeO.ite ?_ ?_
      | refine LeO.bind ?_ (fun _ => ?_)
    · intro y0 y1 y2 y3
      unfold monticuleref28_Closed.l2
      repeat' first
      | (with_reducible exact ih0 _ _ _)
      | (with_reducible exact ih1 _ _ _)
      | (with_reducible exact ih2 _ _ _ _)
      | (with_reducible exact monticuleref06_In.mono _ _ _)
      | (with_reducible exact LeO.refl _)
      | (with_reducible exact LeO.none _)
      | (with_reducible refine LeO.ite ?_ ?_)
      | (with_reducible refine LeO.bind ?_ (fun _ => ?_))
      | exact ih0 _ _ _
      | exact ih1 _ _ _
      | exact ih2 _ _ _ _
      | exact monticuleref06_In.mono _ _ _
      | exact LeO.none _
      | refine LeO.ite ?_ ?_
      | refine LeO.bind ?_ (fun _ => ?_)
theorem monticuleref28_Closed.mono : ∀ a0 k, LeO (monticuleref28_Closed.f k a0) (monticuleref28_Closed.f (k + 1) a0) := by
  intro a0 k
  obtain ⟨ih0, ih1, ih2⟩ := monticuleref28_Closed.mono_l k
  unfold monticuleref28_Closed.f
  repeat' first
      | (with_reducible exact ih0 _ _ _)
      | (with_reducible exact ih1 _ _ _)
      | (with_reducible exact ih2 _ _ _ _)
      | (with_reducible exact monticuleref06_In.mono _ _ _)
      | (with_reducible exact LeO.refl _)
      | (with_reducible exact LeO.none _)
      | (with_reducible refine LeO.ite ?_ ?_)
      | (with_reducible refine LeO.bind ?_ (fun _ => ?_))
      | exact ih0 _ _ _
      | exact ih1 _ _ _
      | exact ih2 _ _ _ _
      | exact monticuleref06_In.mono _ _ _
      | exact LeO.none _
      | refine LeO.ite ?_ ?_
      | refine LeO.bind ?_ (fun _ => ?_)
set_option maxHeartbeats 8000000 in
set_option maxRecDepth 100000 in
theorem monticuleref28_Closed.calls (k : Nat) (A0 : Option Addr) (c0 : Nat) (l0 : List (S42)) (r : Bool) (w : World) (hr0 : Kd.C k42 w A0 l0.length l0) (hc0 : l0.length ≤ c0) (h : monticuleref28_Closed.f k l0 = some r) :
    Calls Tryd.prog 18 #[.slice A0 l0.length c0] w fun e w' => e = .returned (.bool r) ∧ Below w.heap.size w w' := by
  have HR0 := Aside0.mk hr0
  have HC0 := Aside0.mk hc0
  clear hr0 hc0
  have HB := Aside0.mk (Below.refl w.heap.size w)
  have H : (monticuleref28_Closed.l0 k l0 ([] : List ByteArray) 0) = some r := h
  clear h
  have H' := Aside0.mk H
  clear H
  go_enter Tryd.func18, Tryd.ntmps18
  go_wp2
  go_loopg [3, 4] k (fun kq v3 v4 w' => ∃ (x3_1 : List ByteArray) (x4_1 : Int), v4 = .int .i64 x4_1 ∧ Aside0 (monticuleref28_Closed.l0 kq l0 x3_1 x4_1 = some r) ∧ Aside0 (kq ≤ k) ∧ Aside0 (Kd.R Kd.string 9 w' w.heap.size (fun _ => True) v3 x3_1) ∧ Aside0 (Below w.heap.size w w'))
  case atStart => exact ⟨(([] : List ByteArray)), (0), (by first | rfl | (simp; done) | (simp [*]; done)), H', ⟨Nat.le_refl _⟩, ⟨by first | exact Kd.R_nil _ _ _ _ _ | exact Kd.N_nil _ _ _ _ _ | exact Kd.V_nil _ _ _ _ _ | exact Kd.Q_nil _ _ _ _ _ | exact Kd.S_nil _ _ _ _ _⟩, ⟨by repeat (first | (with_reducible first | exact HB.out | apply below_alloc | apply pw_below_drewN | apply below_drew1) | exact HB.out)⟩⟩
  case round =>
    clear H'
    try clear c1
    obtain ⟨x3_1, x4_1, rfl, HA, HK1, HO_3, HB⟩ := hrel
    cases gk with
    | zero => exact absurd HA.out (by simp [monticuleref28_Closed.l0])
    | succ k1 =>
      have H := HA.out
      clear HA
      simp only [monticuleref28_Closed.l0] at H
      by_cases c2 : x4_1 < (l0.length : Int)
      · rw [if_pos c2] at H
        have c2b0 : decide (x4_1 < (l0.length : Int)) = true := decide_eq_true c2
        clear c2
        by_cases c3 : 0 ≤ x4_1
        · rw [if_pos c3] at H
          have c3b0 : decide (0 ≤ x4_1) = true := decide_eq_true c3
          clear c3
          by_cases c4 : x3_1.length < 8796093022208
          · rw [if_pos c4] at H
            have LMc4 := Aside0.mk c4
            clear c4
            obtain ⟨y274, hy274⟩ : ∃ y_ : List ByteArray, y_ = (x3_1 ++ [(rd_T42 l0 x4_1).f0]) := ⟨_, rfl⟩
            replace H : (monticuleref28_Closed.l0 k1 l0 y274 (wrap64 (x4_1 + 1))) = some r := by first | (rw [hy274]; with_reducible exact H) | (have H2_ := (Option.bind_some _ _).symm.trans H; rw [hy274]; with_reducible exact H2_) | (have H2_ := (Option.bind_some _ _).symm.trans H; with_reducible exact H2_) | with_reducible exact H | (rw [hy274]; exact H) | exact H
            have Ny274 := Aside0.mk hy274
            clear hy274
            have H' := Aside0.mk H
            clear H
            have p273 : 0 ≤ (x4_1 : Int) := of_decide_eq_true (by first | (with_reducible assumption) | assumption)
            have q273 : x4_1 < (l0.length : Int) := of_decide_eq_true (by first | (with_reducible assumption) | assumption)
            obtain ⟨ad273, A273_2, c273_2, A273_3, c273_3, e273, hx273_0, hx273_1, hx273_2, hx273_3, hl273_2, hi273_2, hl273_3, hi273_3⟩ := at_T42 HR0.out x4_1 p273 q273
            cases e273
            replace hx273_0 := (HB.out.cell (World.block_lt_of_cell? w _ hx273_0)).trans hx273_0
            replace hx273_1 := (HB.out.cell (World.block_lt_of_cell? w _ hx273_1)).trans hx273_1
            replace hx273_2 := (HB.out.cell (World.block_lt_of_cell? w _ hx273_2)).trans hx273_2
            replace hx273_3 := (HB.out.cell (World.block_lt_of_cell? w _ hx273_3)).trans hx273_3
            have HR273_2 := Aside0.mk hi273_2
            have HC273_2 := Aside0.mk hl273_2
            clear hi273_2 hl273_2
            have HR273_3 := Aside0.mk hi273_3
            have HC273_3 := Aside0.mk hl273_3
            clear hi273_3 hl273_3
            replace p273 := eq_true p273
            replace q273 := eq_true q273
            go_wp2_with (first | ((with_reducible refine gate_builtin (b := .append) (xs := #[.tmp 13, .tmp 19]) rfl ?_); at_builtin; refine Kd.R_append Kd.string (w0 := w) w.heap.size rfl (.tmp 13) (.tmp 19) 22 9 (.string ⟨#[]⟩) 16 rfl Tryd.underlying22 info9 rfl (by decide) (by omega) u3 x3_1 ((rd_T42 l0 x4_1).f0) [.string ((rd_T42 l0 x4_1).f0)] (fun _ => True) (fun _ => False) rfl rfl ?aP (fun _ hk => hk.elim) ?aF ?aO ?aB ?aS ?aL ?_; (case aP => exact rfl); (case aB => exact (by repeat (first | (with_reducible first | exact HB.out | apply below_alloc | apply pw_below_drewN | apply below_drew1) | exact HB.out))); (case aF => exact (fun _ _ => trivial)); (case aO => exact (by (with_reducible repeat (first | apply Kd.R_alloc | apply Kd.R_drewN | apply Kd.R_drew)); exact HO_3.out)); (case aS => exact (below_size (by repeat (first | (with_reducible first | exact HB.out | apply below_alloc | apply pw_below_drewN | apply below_drew1) | exact HB.out)))); (case aL => have := LMc4.out; omega); intro v275 w5 ho hb hg hat; rw [← Ny274.out] at ho; have n0_ := Aside0.mk (hb); have n1_ := Aside0.mk (ho); clear HB; clear HO_3; have HB := n0_; have HO276 := n1_; clear n0_ n1_; clear ho hb hg hat))
            go_roundg k1
            case measure => have := HK1.out; omega
            case rel => exact ⟨(y274), (wrap64 (x4_1 + 1)), (by first | rfl | (simp; done) | (simp [*]; done)), H', ⟨by have := HK1.out; omega⟩, ⟨by (with_reducible repeat (first | apply Kd.R_alloc | apply Kd.R_drewN | apply Kd.R_drew)); exact HO276.out⟩, ⟨by repeat (first | (with_reducible first | exact HB.out | apply below_alloc | apply pw_below_drewN | apply below_drew1) | exact HB.out)⟩⟩
          · rw [if_neg c4] at H
            exact absurd H (by simp)
        · rw [if_neg c3] at H
          exact absurd H (by simp)
      · rw [if_neg c2] at H
        have c2b0 : decide (x4_1 < (l0.length : Int)) = false := decide_eq_false c2
        clear c2
        have H' := Aside0.mk H
        clear H
        go_wp2
        go_loopg [5] k1 (fun kq v5 w' => ∃ (x5_2 : Int), v5 = .int .i64 x5_2 ∧ Aside0 (monticuleref28_Closed.l1 kq l0 x3_1 x5_2 = some r) ∧ Aside0 (kq ≤ k1) ∧ Aside0 (Kd.R Kd.string 9 w' w.heap.size (fun _ => True) u3 x3_1) ∧ Aside0 (Below w.heap.size w w'))
        case atStart => exact ⟨(0), (by first | rfl | (simp; done) | (simp [*]; done)), H', ⟨Nat.le_refl _⟩, ⟨by (with_reducible repeat (first | apply Kd.R_alloc | apply Kd.R_drewN | apply Kd.R_drew)); exact HO_3.out⟩, ⟨by repeat (first | (with_reducible first | exact HB.out | apply below_alloc | apply pw_below_drewN | apply below_drew1) | exact HB.out)⟩⟩
        case round =>
          clear H'
          try clear c1
          try clear c2
          try clear c2b0
          try clear p2
          try clear q2
          try clear hx2
          try clear c3
          try clear c3b0
          try clear c4
          try clear hx273_0
          try clear hx273_1
          try clear hx273_2
          try clear hx273_3
          try clear p273
          try clear q273
          obtain ⟨x5_2, rfl, HA, HK2, HO_3, HB⟩ := hrel
          cases gk with
          | zero => exact absurd HA.out (by simp [monticuleref28_Closed.l1])
          | succ k2 =>
            have H := HA.out
            clear HA
            simp only [monticuleref28_Closed.l1] at H
            by_cases c6 : x5_2 < (l0.length : Int)
            · rw [if_pos c6] at H
              have c6b0 : decide (x5_2 < (l0.length : Int)) = true := decide_eq_true c6
              clear c6
              have H' := Aside0.mk H
              clear H
              go_wp2
              go_loopg [6] k2 (fun kq v6 w' => ∃ (x6_3 : Int), v6 = .int .i64 x6_3 ∧ Aside0 (monticuleref28_Closed.l2 kq l0 x3_1 x5_2 x6_3 = some r) ∧ Aside0 (kq ≤ k2) ∧ Aside0 (Kd.R Kd.string 9 w' w.heap.size (fun _ => True) u3 x3_1) ∧ Aside0 (Below w.heap.size w w'))
              case atStart => exact ⟨(0), (by first | rfl | (simp; done) | (simp [*]; done)), H', ⟨Nat.le_refl _⟩, ⟨by (with_reducible repeat (first | apply Kd.R_alloc | apply Kd.R_drewN | apply Kd.R_drew)); exact HO_3.out⟩, ⟨by repeat (first | (with_reducible first | exact HB.out | apply below_alloc | apply pw_below_drewN | apply below_drew1) | exact HB.out)⟩⟩
              case round =>
                clear H'
                try clear c1
                try clear c2
                try clear c2b0
                try clear p2
                try clear q2
                try clear hx2
                try clear c3
                try clear c3b0
                try clear c4
                try clear c6
                try clear c6b0
                try clear p6
                try clear hx273_0
                try clear hx273_1
                try clear hx273_2
                try clear hx273_3
                try clear p2
                try clear p273
                try clear q2
                try clear q273
                obtain ⟨x6_3, rfl, HA, HK3, HO_3, HB⟩ := hrel
                cases gk with
                | zero => exact absurd HA.out (by simp [monticuleref28_Closed.l2])
                | succ k3 =>
                  have H := HA.out
                  clear HA
                  simp only [monticuleref28_Closed.l2] at H
                  by_cases c7 : 0 ≤ x5_2
                  · rw [if_pos c7] at H
                    have c7b0 : decide (0 ≤ x5_2) = true := decide_eq_true c7
                    clear c7
                    by_cases c8 : x5_2 < (l0.length : Int)
                    · rw [if_pos c8] at H
                      have c8b0 : decide (x5_2 < (l0.length : Int)) = true := decide_eq_true c8
                      clear c8
                      by_cases c9 : x6_3 < (((rd_T42 l0 x5_2).f2).length : Int)
                      · rw [if_pos c9] at H
                        have c9b0 : decide (x6_3 < (((rd_T42 l0 x5_2).f2).length : Int)) = true := decide_eq_true c9
                        clear c9
                        by_cases c10 : 0 ≤ x6_3
                        · rw [if_pos c10] at H
                          have c10b0 : decide (0 ≤ x6_3) = true := decide_eq_true c10
                          clear c10
                          replace H := Option.bind_eq_some_iff.mp H
                          obtain ⟨t280, A110, H⟩ := H
                          replace H : (if t280 = true then (monticuleref28_Closed.l2 k3 l0 x3_1 x5_2 (wrap64 (x6_3 + 1))) else (some false)) = some r := H
                          have A11 := Aside0.mk A110
                          clear A110
                          by_cases c12 : t280 = true
                          · subst c12
                            have H1 : (monticuleref28_Closed.l2 k3 l0 x3_1 x5_2 (wrap64 (x6_3 + 1))) = some r := by rw [if_pos rfl] at H; exact H
                            clear H
                            have H := H1
                            clear H1
                            have H' := Aside0.mk H
                            clear H
                            have p277 : 0 ≤ (x5_2 : Int) := of_decide_eq_true (by first | (with_reducible assumption) | assumption)
                            have q277 : x5_2 < (l0.length : Int) := of_decide_eq_true (by first | (with_reducible assumption) | assumption)
                            obtain ⟨ad277, A277_2, c277_2, A277_3, c277_3, e277, hx277_0, hx277_1, hx277_2, hx277_3, hl277_2, hi277_2, hl277_3, hi277_3⟩ := at_T42 HR0.out x5_2 p277 q277
                            cases e277
                            replace hx277_0 := (HB.out.cell (World.block_lt_of_cell? w _ hx277_0)).trans hx277_0
                            replace hx277_1 := (HB.out.cell (World.block_lt_of_cell? w _ hx277_1)).trans hx277_1
                            replace hx277_2 := (HB.out.cell (World.block_lt_of_cell? w _ hx277_2)).trans hx277_2
                            replace hx277_3 := (HB.out.cell (World.block_lt_of_cell? w _ hx277_3)).trans hx277_3
                            have HR277_2 := Aside0.mk hi277_2
                            have HC277_2 := Aside0.mk hl277_2
                            clear hi277_2 hl277_2
                            have HR277_3 := Aside0.mk hi277_3
                            have HC277_3 := Aside0.mk hl277_3
                            clear hi277_3 hl277_3
                            replace p277 := eq_true p277
                            replace q277 := eq_true q277
                            have p278 : 0 ≤ (x5_2 : Int) := of_decide_eq_true (by first | (with_reducible assumption) | assumption)
                            have q278 : x5_2 < (l0.length : Int) := of_decide_eq_true (by first | (with_reducible assumption) | assumption)
                            obtain ⟨ad278, A278_2, c278_2, A278_3, c278_3, e278, hx278_0, hx278_1, hx278_2, hx278_3, hl278_2, hi278_2, hl278_3, hi278_3⟩ := at_T42 HR0.out x5_2 p278 q278
                            obtain rfl : ad277 = ad278 := (by injection e278)
                            replace hx278_0 := (HB.out.cell (World.block_lt_of_cell? w _ hx278_0)).trans hx278_0
                            replace hx278_1 := (HB.out.cell (World.block_lt_of_cell? w _ hx278_1)).trans hx278_1
                            replace hx278_2 := (HB.out.cell (World.block_lt_of_cell? w _ hx278_2)).trans hx278_2
                            replace hx278_3 := (HB.out.cell (World.block_lt_of_cell? w _ hx278_3)).trans hx278_3
                            have HR278_2 := Aside0.mk hi278_2
                            have HC278_2 := Aside0.mk hl278_2
                            clear hi278_2 hl278_2
                            have HR278_3 := Aside0.mk hi278_3
                            have HC278_3 := Aside0.mk hl278_3
                            clear hi278_3 hl278_3
                            replace p278 := eq_true p278
                            replace q278 := eq_true q278
                            have ea_ := Option.some.inj (hx277_2.symm.trans hx278_2)
                            injection ea_ with ea_ en_ ec_
                            subst ea_
                            subst ec_
                            clear en_
                            have ea_ := Option.some.inj (hx277_3.symm.trans hx278_3)
                            injection ea_ with ea_ en_ ec_
                            subst ea_
                            subst ec_
                            clear en_
                            have p279 : 0 ≤ (x6_3 : Int) := of_decide_eq_true (by first | (with_reducible assumption) | assumption)
                            have q279 : x6_3 < (((rd_T42 l0 x5_2).f2).length : Int) := of_decide_eq_true (by first | (with_reducible assumption) | assumption)
                            obtain ⟨ad279, e279, hx279_0⟩ := Kd.at_string HR278_2.out x6_3 p279 q279
                            cases e279
                            replace hx279_0 := (HB.out.cell (World.block_lt_of_cell? w _ hx279_0)).trans hx279_0
                            replace p279 := eq_true p279
                            replace q279 := eq_true q279
                            obtain ⟨Ao13, co13, eo13⟩ := Kd.R_slice HO_3.out
                            subst eo13
                            go_wp2_with (first | ((with_reducible refine gate_callee (f := 11) rfl ?_); refine goesL_ (some 46) rfl rfl Tryd.func11 (by kernel_rfl) rfl #[.slice Ao13 x3_1.length co13, .string (rdOf ByteArray.empty ((rd_T42 l0 x5_2).f2) x6_3)] rfl (by (try simp only [List.map_toArray, List.map_cons, List.map_nil]); first | done | rfl | (simp only [List.length_drop, List.length_take]; rfl)) ?_; (with_reducible refine (monticuleref06_In.calls k3 _ _ x3_1 (rdOf ByteArray.empty ((rd_T42 l0 x5_2).f2) x6_3) true _ ?side1 ?side2 A11.out).mono ?_); (case side1 => repeat (first | exact (Kd.R_reads' HO_3.out).2.2 | (with_reducible refine Kd.C_alloc ?_ _) | (with_reducible refine Kd.C_drewN ?_ _) | (with_reducible refine Kd.C_drew ?_))); (case side2 => exact (Kd.R_reads' HO_3.out).2.1); rintro e w' ⟨rfl, ⟨nd, rfl⟩⟩; refine ⟨_, rfl, ?_⟩))
                            go_roundg k3
                            case measure => have := HK1.out; have := HK2.out; have := HK3.out; omega
                            case rel => exact ⟨(wrap64 (x6_3 + 1)), (by first | rfl | (simp; done) | (simp [*]; done)), H', ⟨by have := HK1.out; have := HK2.out; have := HK3.out; omega⟩, ⟨by (with_reducible repeat (first | apply Kd.R_alloc | apply Kd.R_drewN | apply Kd.R_drew)); exact HO_3.out⟩, ⟨by repeat (first | (with_reducible first | exact HB.out | apply below_alloc | apply pw_below_drewN | apply below_drew1) | exact HB.out)⟩⟩
                          · replace c12 := Bool.eq_false_iff.mpr c12
                            subst c12
                            have H1 : (some false) = some r := by rw [if_neg (show ¬ (false = true) by decide)] at H; exact H
                            clear H
                            have H := H1
                            clear H1
                            obtain rfl := Option.some.inj H
                            have p277 : 0 ≤ (x5_2 : Int) := of_decide_eq_true (by first | (with_reducible assumption) | assumption)
                            have q277 : x5_2 < (l0.length : Int) := of_decide_eq_true (by first | (with_reducible assumption) | assumption)
                            obtain ⟨ad277, A277_2, c277_2, A277_3, c277_3, e277, hx277_0, hx277_1, hx277_2, hx277_3, hl277_2, hi277_2, hl277_3, hi277_3⟩ := at_T42 HR0.out x5_2 p277 q277
                            cases e277
                            replace hx277_0 := (HB.out.cell (World.block_lt_of_cell? w _ hx277_0)).trans hx277_0
                            replace hx277_1 := (HB.out.cell (World.block_lt_of_cell? w _ hx277_1)).trans hx277_1
                            replace hx277_2 := (HB.out.cell (World.block_lt_of_cell? w _ hx277_2)).trans hx277_2
                            replace hx277_3 := (HB.out.cell (World.block_lt_of_cell? w _ hx277_3)).trans hx277_3
                            have HR277_2 := Aside0.mk hi277_2
                            have HC277_2 := Aside0.mk hl277_2
                            clear hi277_2 hl277_2
                            have HR277_3 := Aside0.mk hi277_3
                            have HC277_3 := Aside0.mk hl277_3
                            clear hi277_3 hl277_3
                            replace p277 := eq_true p277
                            replace q277 := eq_true q277
                            have p278 : 0 ≤ (x5_2 : Int) := of_decide_eq_true (by first | (with_reducible assumption) | assumption)
                            have q278 : x5_2 < (l0.length : Int) := of_decide_eq_true (by first | (with_reducible assumption) | assumption)
                            obtain ⟨ad278, A278_2, c278_2, A278_3, c278_3, e278, hx278_0, hx278_1, hx278_2, hx278_3, hl278_2, hi278_2, hl278_3, hi278_3⟩ := at_T42 HR0.out x5_2 p278 q278
                            obtain rfl : ad277 = ad278 := (by injection e278)
                            replace hx278_0 := (HB.out.cell (World.block_lt_of_cell? w _ hx278_0)).trans hx278_0
                            replace hx278_1 := (HB.out.cell (World.block_lt_of_cell? w _ hx278_1)).trans hx278_1
                            replace hx278_2 := (HB.out.cell (World.block_lt_of_cell? w _ hx278_2)).trans hx278_2
                            replace hx278_3 := (HB.out.cell (World.block_lt_of_cell? w _ hx278_3)).trans hx278_3
                            have HR278_2 := Aside0.mk hi278_2
                            have HC278_2 := Aside0.mk hl278_2
                            clear hi278_2 hl278_2
                            have HR278_3 := Aside0.mk hi278_3
                            have HC278_3 := Aside0.mk hl278_3
                            clear hi278_3 hl278_3
                            replace p278 := eq_true p278
                            replace q278 := eq_true q278
                            have ea_ := Option.some.inj (hx277_2.symm.trans hx278_2)
                            injection ea_ with ea_ en_ ec_
                            subst ea_
                            subst ec_
                            clear en_
                            have ea_ := Option.some.inj (hx277_3.symm.trans hx278_3)
                            injection ea_ with ea_ en_ ec_
                            subst ea_
                            subst ec_
                            clear en_
                            have p279 : 0 ≤ (x6_3 : Int) := of_decide_eq_true (by first | (with_reducible assumption) | assumption)
                            have q279 : x6_3 < (((rd_T42 l0 x5_2).f2).length : Int) := of_decide_eq_true (by first | (with_reducible assumption) | assumption)
                            obtain ⟨ad279, e279, hx279_0⟩ := Kd.at_string HR278_2.out x6_3 p279 q279
                            cases e279
                            replace hx279_0 := (HB.out.cell (World.block_lt_of_cell? w _ hx279_0)).trans hx279_0
                            replace p279 := eq_true p279
                            replace q279 := eq_true q279
                            obtain ⟨Ao14, co14, eo14⟩ := Kd.R_slice HO_3.out
                            subst eo14
                            go_wp2_with (first | ((with_reducible refine gate_callee (f := 11) rfl ?_); refine goesL_ (some 46) rfl rfl Tryd.func11 (by kernel_rfl) rfl #[.slice Ao14 x3_1.length co14, .string (rdOf ByteArray.empty ((rd_T42 l0 x5_2).f2) x6_3)] rfl (by (try simp only [List.map_toArray, List.map_cons, List.map_nil]); first | done | rfl | (simp only [List.length_drop, List.length_take]; rfl)) ?_; (with_reducible refine (monticuleref06_In.calls k3 _ _ x3_1 (rdOf ByteArray.empty ((rd_T42 l0 x5_2).f2) x6_3) false _ ?side1 ?side2 A11.out).mono ?_); (case side1 => repeat (first | exact (Kd.R_reads' HO_3.out).2.2 | (with_reducible refine Kd.C_alloc ?_ _) | (with_reducible refine Kd.C_drewN ?_ _) | (with_reducible refine Kd.C_drew ?_))); (case side2 => exact (Kd.R_reads' HO_3.out).2.1); rintro e w' ⟨rfl, ⟨nd, rfl⟩⟩; refine ⟨_, rfl, ?_⟩))
                            go_ret
                            exact ⟨by first | rfl | (simp [errW_none, errW_some] <;> rfl) | (simp [*, errW_none, errW_some] <;> rfl), by repeat (first | (with_reducible first | exact HB.out | apply below_alloc | apply pw_below_drewN | apply below_drew1) | exact HB.out)⟩
                        · rw [if_neg c10] at H
                          exact absurd H (by simp)
                      · rw [if_neg c9] at H
                        have c9b0 : decide (x6_3 < (((rd_T42 l0 x5_2).f2).length : Int)) = false := decide_eq_false c9
                        clear c9
                        have H' := Aside0.mk H
                        clear H
                        have p277 : 0 ≤ (x5_2 : Int) := of_decide_eq_true (by first | (with_reducible assumption) | assumption)
                        have q277 : x5_2 < (l0.length : Int) := of_decide_eq_true (by first | (with_reducible assumption) | assumption)
                        obtain ⟨ad277, A277_2, c277_2, A277_3, c277_3, e277, hx277_0, hx277_1, hx277_2, hx277_3, hl277_2, hi277_2, hl277_3, hi277_3⟩ := at_T42 HR0.out x5_2 p277 q277
                        cases e277
                        replace hx277_0 := (HB.out.cell (World.block_lt_of_cell? w _ hx277_0)).trans hx277_0
                        replace hx277_1 := (HB.out.cell (World.block_lt_of_cell? w _ hx277_1)).trans hx277_1
                        replace hx277_2 := (HB.out.cell (World.block_lt_of_cell? w _ hx277_2)).trans hx277_2
                        replace hx277_3 := (HB.out.cell (World.block_lt_of_cell? w _ hx277_3)).trans hx277_3
                        have HR277_2 := Aside0.mk hi277_2
                        have HC277_2 := Aside0.mk hl277_2
                        clear hi277_2 hl277_2
                        have HR277_3 := Aside0.mk hi277_3
                        have HC277_3 := Aside0.mk hl277_3
                        clear hi277_3 hl277_3
                        replace p277 := eq_true p277
                        replace q277 := eq_true q277
                        go_wp2
                        go_roundg k3
                        case measure => have := HK1.out; have := HK2.out; have := HK3.out; omega
                        case rel => exact ⟨(wrap64 (x5_2 + 1)), (by first | rfl | (simp; done) | (simp [*]; done)), H', ⟨by have := HK1.out; have := HK2.out; have := HK3.out; omega⟩, ⟨by (with_reducible repeat (first | apply Kd.R_alloc | apply Kd.R_drewN | apply Kd.R_drew)); exact HO_3.out⟩, ⟨by repeat (first | (with_reducible first | exact HB.out | apply below_alloc | apply pw_below_drewN | apply below_drew1) | exact HB.out)⟩⟩
                    · rw [if_neg c8] at H
                      exact absurd H (by simp)
                  · rw [if_neg c7] at H
                    exact absurd H (by simp)
            · rw [if_neg c6] at H
              have c6b0 : decide (x5_2 < (l0.length : Int)) = false := decide_eq_false c6
              clear c6
              obtain rfl := Option.some.inj H
              go_wp2
              go_ret
              exact ⟨by first | rfl | (simp [errW_none, errW_some] <;> rfl) | (simp [*, errW_none, errW_some] <;> rfl), by repeat (first | (with_reducible first | exact HB.out | apply below_alloc | apply pw_below_drewN | apply below_drew1) | exact HB.out)⟩

end Go.Proofs.YtgfdcakeplamnaaDoor.PAll
