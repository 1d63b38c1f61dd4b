/- PlanTurned, walked. -/
import Derived.Test.YtgfdcakeplamnaaDoorPAllx4
import Derived.Test.YtgfdcakeplamnaaDoorPAllx5
import Derived.Test.YtgfdcakeplamnaaDoorPAllx6
import Derived.Test.YtgfdcakeplamnaaDoorPAllx8
namespace Go.Proofs.YtgfdcakeplamnaaDoor.Hd
open Go.RowKit Go.Proofs.YtgfdcakeplamnaaDoor.PAll.Hd Go.Proofs.YtgfdcakeplamnaaDoorW.PrintWords Go.Proofs.YtgfdcakeplamnaaDoorW.PrintLast Go.Proofs.YtgfdcakeplamnaaDoorW.PrintMore Go.Proofs.YtgfdcakeplamnaaDoor.PAll
attribute [local go_sem] max2_int min2_int max_two min_two max_three min_three max_four min_four
set_option linter.unusedVariables false
set_option linter.unusedSimpArgs false
/-- The place from which the packages come; the packages turned. -/
def placeT (n : Nat) (turn : Int) (i : Nat) : Int := Int.tmod (wrap64 ((i : Int) + Int.tmod (wrap64 (Int.tmod turn (n : Int) + (n : Int))) (n : Int))) (n : Int)
def turnedP (ps : List S34) (turn : Int) : List S34 := (List.range ps.length).map fun i : Nat => rd_T34 ps (placeT ps.length turn i)
theorem rest_in (n : Nat) (turn : Int) (h0 : 0 < n) (hn : n ≤ 1000) : 0 ≤ Int.tmod (wrap64 (Int.tmod turn (n : Int) + (n : Int))) (n : Int) ∧ Int.tmod (wrap64 (Int.tmod turn (n : Int) + (n : Int))) (n : Int) < (n : Int) := by
  have h1 : -(n : Int) < Int.tmod turn (n : Int) ∧ Int.tmod turn (n : Int) < (n : Int) := by
    refine ⟨?_, Int.tmod_lt_of_pos _ (by omega)⟩
    by_cases h : 0 ≤ turn
    · have := Int.tmod_nonneg (n : Int) h
      omega
    · have h3 := Int.neg_tmod (-turn) (n : Int)
      rw [Int.neg_neg] at h3
      have := Int.tmod_lt_of_pos (-turn) (b := (n : Int)) (by omega)
      omega
  have h2 : wrap64 (Int.tmod turn (n : Int) + (n : Int)) = Int.tmod turn (n : Int) + (n : Int) := IntWalk.wrap64_in _ (by omega)
  rw [h2]
  exact ⟨Int.tmod_nonneg _ (by omega), Int.tmod_lt_of_pos _ (by omega)⟩
theorem place_in (n : Nat) (turn : Int) (i : Nat) (hi : i < n) (hn : n ≤ 1000) : 0 ≤ placeT n turn i ∧ placeT n turn i < (n : Int) := by
  obtain ⟨a, b⟩ := rest_in n turn (by omega) hn
  unfold placeT
  have h2 : wrap64 ((i : Int) + Int.tmod (wrap64 (Int.tmod turn (n : Int) + (n : Int))) (n : Int)) = (i : Int) + Int.tmod (wrap64 (Int.tmod turn (n : Int) + (n : Int))) (n : Int) := IntWalk.wrap64_in _ (by omega)
  rw [h2]
  exact ⟨Int.tmod_nonneg _ (by omega), Int.tmod_lt_of_pos _ (by omega)⟩
theorem heap68 : Kd.Heap k68 := Kd.heap_iso _ (Kd.heap_pair (Kd.heap_int .i64) (Kd.heap_pair Kd.heap_string (Kd.heap_pair Kd.heap_string (Kd.heap_pair (Kd.heap_slice 9 Kd.heap_string) (Kd.heap_pair Kd.heap_string Kd.heap_string)))))
theorem heap34 : Kd.Heap k34 := Kd.heap_iso _ (Kd.heap_pair Kd.heap_string (Kd.heap_pair (Kd.heap_int .i64) (Kd.heap_pair (Kd.heap_slice 9 Kd.heap_string) (Kd.heap_slice 68 heap68))))
theorem info34_ : ((Tryd.prog.info? 34).map (fun i => (i.zero, i.size, i.bytes))) = some (some (.agg #[.string ⟨#[]⟩, .int .i64 0, .slice none 0 0, .slice none 0 0]), 4, 72) := by kernel_rfl
theorem rest_val (turn : Int) (n : Nat) (h : 0 < n) : monticuleref01_Rest.f turn (n : Int) = some (Int.tmod (wrap64 (Int.tmod turn (n : Int) + (n : Int))) (n : Int)) := by
  unfold monticuleref01_Rest.f
  rw [if_neg (by omega)]
theorem turned_len (ps : List S34) (turn : Int) : (turnedP ps turn).length = ps.length := by simp [turnedP]
theorem turned_at (ps : List S34) (turn : Int) (x : Nat) (hx : x < (turnedP ps turn).length) : (turnedP ps turn)[x] = rd_T34 ps (placeT ps.length turn x) := by simp [turnedP]
theorem n_base {w : World} {base : Nat} {ok : Nat → Prop} {v : Value} {xs : List S34} (h : Kd.N k34 34 w base ok v xs) : ∀ k, v.ownBlock = some k → base ≤ k := fun k hk => by
  obtain ⟨_, rows, _, hR, _⟩ := h
  exact Kd.R_base hR k hk
theorem fk_old {w W : World} {x : S34} {c : List Value} (h : k34.K w x c) (hb : Below w.heap.size w W) : Kd.FK k34 W (fun k => k < w.heap.size) x c :=
  fun W' hW => heap34.K (fun k hlt => (hW k hlt (Nat.lt_of_lt_of_le hlt hb.size)).trans (hb.block k hlt)) h
def pturn.T15 : Bool × List (List Nat × List Nat) := (true, [([], []), ([], []), ([], []), ([1, 2], [1, 2]), ([3], [3]), ([0, 4], [0, 4]), ([5], [5]), ([6], [6]), ([], []), ([], []), ([], []), ([9, 10], [9, 10]), ([11], [11]), ([8, 12], [8, 12]), ([13], [13]), ([14], [14]), ([7, 15], [7, 15])])
def pturn.B15 : List Nat := [0, 0, 0, 6, 14, 31, 63, 127, 0, 0, 0, 1536, 3584, 7936, 16128, 32512, 65535]
theorem pturn.tab15 : rtab .any (opsOf Tryd.f4 15) = pturn.T15 := by kernel_rfl
theorem pturn.bits15 : waitsOk pturn.T15.2 pturn.B15 = true := by kernel_rfl
set_option maxHeartbeats 16000000 in
set_option maxRecDepth 100000 in
theorem law_turned (k : Nat) (A0 : Option Addr) (c0 : Nat) (th : List ByteArray) (A1 : Option Addr) (c1 : Nat) (ps : List S34) (turn : Int) (b1 b2 : Bool) (r r2 : List Int × Int × ByteArray) (w : World) (hr0 : Kd.C Kd.string w A0 th.length th) (hc0 : th.length ≤ c0) (hr1 : Kd.C k34 w A1 ps.length ps) (hc1 : ps.length ≤ c1)
    (hw : monticulelaw28_awake.f k = some true) (h1 : monticulelaw28_few.f k th = some b1) (h2 : monticuleref28_Few.f k ps 8 = some b2)
    (hx : b1 = true → b2 = true → (ps.length ≤ 8 ∧ r.1.length ≤ 1000) ∧ plan_Order.f k th ps = some r ∧ plan_Order.f k th (turnedP ps turn) = some r2 ∧ (r.2.1 = 0 ↔ r2.2.1 = 0) ∧ r.1.map (rd_T34 ps) = r2.1.map (rd_T34 (turnedP ps turn)) ∧ (∀ x ∈ r.1, 0 ≤ x ∧ x < (ps.length : Int)) ∧ (∀ x ∈ r2.1, 0 ≤ x ∧ x < ((turnedP ps turn).length : Int))) :
    Calls Tryd.prog 4 #[.slice A0 th.length c0, .slice A1 ps.length c1, .int .i64 turn] w fun e w' => e = .returned (.bool true) ∧ Below w.heap.size w w' := by
  have hu34 := Tryd.underlying34
  have HR0 := Aside0.mk hr0
  have HC0 := Aside0.mk hc0
  have HR1 := Aside0.mk hr1
  have HC1 := Aside0.mk hc1
  have HW := Aside0.mk hw
  have HF1 := Aside0.mk h1
  have HF2 := Aside0.mk h2
  clear hr0 hc0 hr1 hc1 hw h1 h2
  have HB := Aside0.mk (Below.refl w.heap.size w)
  cases b1 with
  | false =>
    clear hx
    go_enter Tryd.func4, Tryd.ntmps4
    go_wp2_with (first | (go_at_call 7; (with_reducible refine (monticulelaw28_awake.calls k true _ HW.out).mono ?_); rintro e wa ⟨rfl, hb_⟩; have n0_ := Aside0.mk (below_step (by repeat (first | (with_reducible first | exact HB.out | apply below_alloc | apply pw_below_drewN | apply below_drew1) | exact HB.out)) hb_); clear HB hb_; have HB := n0_; clear n0_) | (go_at_call 8; (with_reducible refine (monticulelaw28_few.calls k A0 c0 th false _ ?side1 HC0.out HF1.out).mono ?_); (case side1 => exact Kd.C_below HR0.out (by repeat (first | (with_reducible first | exact HB.out | apply below_alloc | apply pw_below_drewN | apply below_drew1) | exact HB.out))); rintro e wb ⟨rfl, hd_⟩; have hb_ := Drawn0.below hd_; clear hd_; have n0_ := Aside0.mk (below_step (by repeat (first | (with_reducible first | exact HB.out | apply below_alloc | apply pw_below_drewN | apply below_drew1) | exact HB.out)) hb_); clear HB hb_; have HB := n0_; clear n0_))
    go_ret
    exact ⟨rfl, (by repeat (first | (with_reducible first | exact HB.out | apply below_alloc | apply pw_below_drewN | apply below_drew1) | exact HB.out))⟩
  | true =>
    cases b2 with
    | false =>
      clear hx
      go_enter Tryd.func4, Tryd.ntmps4
      go_wp2_with (first | (go_at_call 7; (with_reducible refine (monticulelaw28_awake.calls k true _ HW.out).mono ?_); rintro e wa ⟨rfl, hb_⟩; have n0_ := Aside0.mk (below_step (by repeat (first | (with_reducible first | exact HB.out | apply below_alloc | apply pw_below_drewN | apply below_drew1) | exact HB.out)) hb_); clear HB hb_; have HB := n0_; clear n0_) | (go_at_call 8; (with_reducible refine (monticulelaw28_few.calls k A0 c0 th true _ ?side1 HC0.out HF1.out).mono ?_); (case side1 => exact Kd.C_below HR0.out (by repeat (first | (with_reducible first | exact HB.out | apply below_alloc | apply pw_below_drewN | apply below_drew1) | exact HB.out))); rintro e wb ⟨rfl, hd_⟩; have hb_ := Drawn0.below hd_; clear hd_; have n0_ := Aside0.mk (below_step (by repeat (first | (with_reducible first | exact HB.out | apply below_alloc | apply pw_below_drewN | apply below_drew1) | exact HB.out)) hb_); clear HB hb_; have HB := n0_; clear n0_) | (go_at_call 9; (with_reducible refine (monticuleref28_Few.calls k A1 c1 ps 8 false _ ?side1 HC1.out HF2.out).mono ?_); (case side1 => exact Kd.C_below HR1.out (by repeat (first | (with_reducible first | exact HB.out | apply below_alloc | apply pw_below_drewN | apply below_drew1) | exact HB.out))); rintro e wc ⟨rfl, hb_⟩; have n0_ := Aside0.mk (below_step (by repeat (first | (with_reducible first | exact HB.out | apply below_alloc | apply pw_below_drewN | apply below_drew1) | exact HB.out)) hb_); clear HB hb_; have HB := n0_; clear n0_))
      go_ret
      exact ⟨rfl, (by repeat (first | (with_reducible first | exact HB.out | apply below_alloc | apply pw_below_drewN | apply below_drew1) | exact HB.out))⟩
    | true =>
      obtain ⟨hp8, hor, hor2, hiff, hmap, hin, hin2⟩ := hx rfl rfl
      have HP8 := Aside0.mk hp8.1
      have HLR := Aside0.mk hp8.2
      have HOR := Aside0.mk hor
      have HOR2 := Aside0.mk hor2
      have HIFF := Aside0.mk hiff
      have HMAP := Aside0.mk hmap
      have HIN := Aside0.mk hin
      have HIN2 := Aside0.mk hin2
      clear hx hp8 hor hor2 hiff hmap hin hin2
      go_enter Tryd.func4, Tryd.ntmps4
      go_wp2_with (first | (go_at_call 7; (with_reducible refine (monticulelaw28_awake.calls k true _ HW.out).mono ?_); rintro e wa ⟨rfl, hb_⟩; have n0_ := Aside0.mk (below_step (by repeat (first | (with_reducible first | exact HB.out | apply below_alloc | apply pw_below_drewN | apply below_drew1) | exact HB.out)) hb_); clear HB hb_; have HB := n0_; clear n0_) | (go_at_call 8; (with_reducible refine (monticulelaw28_few.calls k A0 c0 th true _ ?side1 HC0.out HF1.out).mono ?_); (case side1 => exact Kd.C_below HR0.out (by repeat (first | (with_reducible first | exact HB.out | apply below_alloc | apply pw_below_drewN | apply below_drew1) | exact HB.out))); rintro e wb ⟨rfl, hd_⟩; have hb_ := Drawn0.below hd_; clear hd_; have n0_ := Aside0.mk (below_step (by repeat (first | (with_reducible first | exact HB.out | apply below_alloc | apply pw_below_drewN | apply below_drew1) | exact HB.out)) hb_); clear HB hb_; have HB := n0_; clear n0_) | (go_at_call 9; (with_reducible refine (monticuleref28_Few.calls k A1 c1 ps 8 true _ ?side1 HC1.out HF2.out).mono ?_); (case side1 => exact Kd.C_below HR1.out (by repeat (first | (with_reducible first | exact HB.out | apply below_alloc | apply pw_below_drewN | apply below_drew1) | exact HB.out))); rintro e wc ⟨rfl, hb_⟩; have n0_ := Aside0.mk (below_step (by repeat (first | (with_reducible first | exact HB.out | apply below_alloc | apply pw_below_drewN | apply below_drew1) | exact HB.out)) hb_); clear HB hb_; have HB := n0_; clear n0_))
      go_loopg [7, 8] ps.length (fun kq v7 v8 w' => ∃ (x : Nat), v8 = .int .i64 (x : Int) ∧ x ≤ ps.length ∧ Aside0 (kq + x = ps.length) ∧ Aside0 (Kd.N k34 34 w' w.heap.size (fun _ => True) v7 ((turnedP ps turn).take x)) ∧ Aside0 (Below w.heap.size w w'))
      case atStart => exact ⟨0, rfl, Nat.zero_le _, ⟨rfl⟩, ⟨Kd.N_nil _ _ _ _ _⟩, ⟨(by repeat (first | (with_reducible first | exact HB.out | apply below_alloc | apply pw_below_drewN | apply below_drew1) | exact HB.out))⟩⟩
      case round =>
        clear HB
        obtain ⟨x, rfl, p1, HKQ, HO, HB⟩ := hrel
        by_cases hlt : x < ps.length
        · have c0_ : decide ((x : Int) < (ps.length : Int)) = true := decide_eq_true (by omega)
          have HX := Aside0.mk (show x < ps.length ∧ ps.length ≤ 8 from ⟨hlt, HP8.out⟩)
          have hw1 : wrap64 ((x : Int) + 1) = ((x + 1 : Nat) : Int) := by rw [IntWalk.wrap64_in _ (by have := HP8.out; omega)]; omega
          obtain ⟨R_, hR_⟩ : ∃ R, R = Int.tmod (wrap64 (Int.tmod turn (ps.length : Int) + (ps.length : Int))) (ps.length : Int) := ⟨_, rfl⟩
          have HRV := Aside0.mk (show monticuleref01_Rest.f turn (ps.length : Int) = some R_ by rw [hR_]; exact rest_val turn ps.length (by omega))
          obtain ⟨P_, hP_⟩ : ∃ P, P = placeT ps.length turn x := ⟨_, rfl⟩
          have hPV : Int.tmod (wrap64 ((x : Int) + R_)) (ps.length : Int) = P_ := by rw [hP_, hR_]; rfl
          have hPI := place_in ps.length turn x hlt (by have := HP8.out; omega)
          rw [← hP_] at hPI
          have HTA := Aside0.mk (show (turnedP ps turn).take (x + 1) = (turnedP ps turn).take x ++ [rd_T34 ps P_] by rw [List.take_succ_eq_append_getElem (by rw [turned_len]; exact hlt), turned_at, hP_])
          obtain ⟨ad, A2, c2, A3, c3, e_, q0, q1, q2, q3, hl2, hi2, hl3, hi3⟩ := at_T34 HR1.out P_ hPI.1 hPI.2
          have HK := Aside0.mk (k34_mk w (rd_T34 ps P_) hl2 hi2 hl3 hi3)
          subst e_
          replace q0 := (HB.out.cell (World.block_lt_of_cell? w _ q0)).trans q0
          replace q1 := (HB.out.cell (World.block_lt_of_cell? w _ q1)).trans q1
          replace q2 := (HB.out.cell (World.block_lt_of_cell? w _ q2)).trans q2
          replace q3 := (HB.out.cell (World.block_lt_of_cell? w _ q3)).trans q3
          have p0_ : (0 ≤ P_) = True := eq_true hPI.1
          have p1_ : (P_ < (ps.length : Int)) = True := eq_true hPI.2
          have hz_ : ((ps.length : Int) = 0) = False := eq_false (by omega)
          have hz2_ : ((ps.length : Int) == 0) = false := beq_eq_false_iff_ne.mpr (by omega)
          clear hl2 hi2 hl3 hi3 hR_ hP_ hPI
          go_wp2_with (first | (go_at_call 12; (with_reducible refine (monticuleref01_Rest.calls turn (ps.length : Int) R_ _ HRV.out).mono ?_); rintro er w1 ⟨rfl, ⟨m1, rfl⟩⟩) | ((with_reducible refine gate_builtin (b := .append) (xs := #[.tmp 35, .tmp 48]) rfl ?_); at_builtin; refine Kd.N_append k34 (w0 := w) w.heap.size rfl (.tmp 35) (.tmp 48) 23 34 (.agg #[.string ⟨#[]⟩, .int .i64 0, .slice none 0 0, .slice none 0 0]) 72 rfl Tryd.underlying23 info34_ rfl (by decide) (by decide) u7 ((turnedP ps turn).take x) (rd_T34 ps P_) [.string (rd_T34 ps P_).f0, .int .i64 (rd_T34 ps P_).f1, .slice A2 (rd_T34 ps P_).f2.length c2, .slice A3 (rd_T34 ps P_).f3.length c3] (fun _ => True) (fun k => k < w.heap.size) rfl rfl ?aP ?aN (fun _ _ => trivial) ?aO ?aB ?aS ?aL ?_; (case aP => exact fk_old HK.out (by repeat (first | (with_reducible first | exact HB.out | apply below_alloc | apply pw_below_drewN | apply below_drew1) | exact HB.out))); (case aN => exact fun k hk => ⟨trivial, fun he => by have := n_base HO.out k he.symm; omega⟩); (case aO => first | exact HO.out | exact Kd.N_drewN HO.out _ | exact Kd.N_below HO.out (pw_below_drewN (Below.refl _ _) _)); (case aB => exact (by repeat (first | (with_reducible first | exact HB.out | apply below_alloc | apply pw_below_drewN | apply below_drew1) | exact HB.out))); (case aS => exact ((by repeat (first | (with_reducible first | exact HB.out | apply below_alloc | apply pw_below_drewN | apply below_drew1) | exact HB.out)) : Below w.heap.size w _).size); (case aL => have := HX.out; rw [List.length_take]; omega); intro v9 w9 ho hb2_ hg_ hat_; have n0_ := Aside0.mk ho; have n1_ := Aside0.mk hb2_; clear HO HB ho hb2_ hg_ hat_; have HO := n0_; have HB := n1_; clear n0_ n1_))
          go_roundg (gk - 1)
          case measure => have := HKQ.out; omega
          case rel => exact ⟨x + 1, (by first | rfl | rw [hw1]), by have := HX.out; omega, ⟨by have := HKQ.out; have := HX.out; omega⟩, ⟨by rw [HTA.out]; exact HO.out⟩, ⟨(by repeat (first | (with_reducible first | exact HB.out | apply below_alloc | apply pw_below_drewN | apply below_drew1) | exact HB.out))⟩⟩
        · have c0_ : decide ((x : Int) < (ps.length : Int)) = false := decide_eq_false (by omega)
          obtain rfl : x = ps.length := by omega
          have HO2 := Aside0.mk (show Kd.N k34 34 wr w.heap.size (fun _ => True) u7 (turnedP ps turn) by have h_ := HO.out; rwa [List.take_of_length_le (by rw [turned_len]; exact Nat.le_refl _)] at h_)
          clear HO hlt HKQ p1
          obtain ⟨Ao, co, rfl, hlo, hCo⟩ := Kd.N_reads HO2.out
          have HCO := Aside0.mk hCo
          have HLO := Aside0.mk hlo
          have HBR := HB
          clear hCo hlo HO2 HB
          have HB := Aside0.mk (Below.refl wr.heap.size wr)
          have hlen : r2.1.length = r.1.length := by have h_ := congrArg List.length HMAP.out; simp only [List.length_map] at h_; exact h_.symm
          obtain ⟨be, hb1_, hb2_⟩ : ∃ be, (r.2.1 == 0) = be ∧ (r2.2.1 == 0) = be := by
            by_cases h_ : r.2.1 = 0
            · exact ⟨true, beq_iff_eq.mpr h_, beq_iff_eq.mpr (HIFF.out.1 h_)⟩
            · exact ⟨false, beq_eq_false_iff_ne.mpr h_, beq_eq_false_iff_ne.mpr (fun h2 => h_ (HIFF.out.2 h2))⟩
          go_wp2_with (first | (go_at_call 10; (with_reducible refine (plan_Order.calls k A0 c0 th A1 c1 ps r.1 r.2.1 r.2.2 _ ?side1 HC0.out ?side2 HC1.out HOR.out).mono ?_); (case side1 => exact Kd.C_below HR0.out (below_step HBR.out (by repeat (first | (with_reducible first | exact HB.out | apply below_alloc | apply pw_below_drewN | apply below_drew1) | exact HB.out)))); (case side2 => exact Kd.C_below HR1.out (below_step HBR.out (by repeat (first | (with_reducible first | exact HB.out | apply below_alloc | apply pw_below_drewN | apply below_drew1) | exact HB.out)))); rintro er w3 ⟨v1, rfl, ho1, hb_⟩; obtain ⟨Al, cl, rfl, hl1_, hC1_⟩ := Kd.R_reads ho1; have n0_ := Aside0.mk (below_step (by repeat (first | (with_reducible first | exact HB.out | apply below_alloc | apply pw_below_drewN | apply below_drew1) | exact HB.out)) hb_); have HV1 := Aside0.mk (Kd.R_mono (ok' := fun k => True) ho1 (fun _ _ => trivial)); clear HB hb_ ho1 hl1_ hC1_; have HB := n0_; clear n0_) | (go_at_call 10; (with_reducible refine (plan_Order.calls k A0 c0 th Ao co (turnedP ps turn) r2.1 r2.2.1 r2.2.2 _ ?side1 HC0.out ?side2 HLO.out HOR2.out).mono ?_); (case side1 => exact Kd.C_below HR0.out (below_step HBR.out (by repeat (first | (with_reducible first | exact HB.out | apply below_alloc | apply pw_below_drewN | apply below_drew1) | exact HB.out)))); (case side2 => exact Kd.C_below HCO.out (by repeat (first | (with_reducible first | exact HB.out | apply below_alloc | apply pw_below_drewN | apply below_drew1) | exact HB.out))); rintro er w4 ⟨v2, rfl, ho2, hb_⟩; obtain ⟨Am, cm, rfl, hl2_, hC2_⟩ := Kd.R_reads ho2; have n0_ := Aside0.mk (below_step (by repeat (first | (with_reducible first | exact HB.out | apply below_alloc | apply pw_below_drewN | apply below_drew1) | exact HB.out)) hb_); have n1_ := Aside0.mk (Kd.R_below HV1.out hb_); have HV2 := Aside0.mk (Kd.R_mono (ok' := fun k => True) ho2 (fun _ _ => trivial)); clear HB HV1 hb_ ho2 hl2_ hC2_; have HB := n0_; have HV1 := n1_; clear n0_ n1_))
          have HC1R := Aside0.mk (Kd.R_reads' HV1.out).2.2
          have HC2R := Aside0.mk (Kd.R_reads' HV2.out).2.2
          have HCOR := Aside0.mk (Kd.C_below HCO.out HB.out)
          have HB4 := Aside0.mk (below_step HBR.out HB.out)
          have HCPR := Aside0.mk (Kd.C_below HR1.out HB4.out)
          clear HB HV1 HV2
          have HB := Aside0.mk (Below.refl w4.heap.size w4)
          clear c0_
          go_loopg [15] r.1.length (fun kq v15 w' => ∃ (x : Nat), v15 = .int .i64 (x : Int) ∧ x ≤ r.1.length ∧ Aside0 (kq + x = r.1.length) ∧ Aside0 (Below w4.heap.size w4 w'))
          case atStart => exact ⟨0, rfl, Nat.zero_le _, ⟨rfl⟩, ⟨(by repeat (first | (with_reducible first | exact HB.out | apply below_alloc | apply pw_below_drewN | apply below_drew1) | exact HB.out))⟩⟩
          case round =>
            clear HB
            obtain ⟨x, rfl, p1, HKQ, HB⟩ := hrel
            by_cases hlt : x < r.1.length
            · have c0_ : decide ((x : Int) < (r.1.length : Int)) = true := decide_eq_true (by omega)
              have hl12 : r.1.length ≤ 1000 := by
                have h8 := HP8.out
                have hL := HLR.out
                omega
              have hw1 : wrap64 ((x : Int) + 1) = ((x + 1 : Nat) : Int) := by rw [IntWalk.wrap64_in _ (by omega)]; omega
              have hi1 := HIN.out _ (List.getElem_mem hlt)
              have hi2 := HIN2.out _ (List.getElem_mem (show x < r2.1.length by omega))
              obtain ⟨a_, ha_⟩ : ∃ a_, a_ = rd r.1 (x : Int) := ⟨_, rfl⟩
              obtain ⟨b_, hb_⟩ : ∃ b_, b_ = rd r2.1 (x : Int) := ⟨_, rfl⟩
              have ha2 : a_ = r.1[x] := by rw [ha_]; unfold rd; rw [Int.toNat_natCast, List.getD_eq_getElem?_getD, List.getElem?_eq_getElem hlt]; rfl
              have hb2 : b_ = r2.1[x]'(by omega) := by rw [hb_]; unfold rd; rw [Int.toNat_natCast, List.getD_eq_getElem?_getD, List.getElem?_eq_getElem (show x < r2.1.length by omega)]; rfl
              rw [← ha2] at hi1
              rw [← hb2] at hi2
              have hEQ : (rd_T34 (turnedP ps turn) b_).f0 = (rd_T34 ps a_).f0 := by
                have h_ : (r.1.map (rd_T34 ps))[x]'(by simpa using hlt) = (r2.1.map (rd_T34 (turnedP ps turn)))[x]'(by rw [List.length_map]; omega) := by simp only [HMAP.out]
                rw [List.getElem_map, List.getElem_map, ← ha2, ← hb2] at h_
                rw [h_]
              obtain ⟨al_, e1_, qa⟩ := Kd.at_int HC1R.out (x : Int) (by omega) (by omega)
              obtain ⟨am_, e2_, qb⟩ := Kd.at_int HC2R.out (x : Int) (by omega) (by omega)
              rw [← ha_] at qa
              rw [← hb_] at qb
              obtain ⟨ad_, A2, c2, A3, c3, e3_, qc, _, _, _, _, _, _, _⟩ := at_T34 HCPR.out a_ hi1.1 hi1.2
              obtain ⟨ao_, A4, c4, A5, c5, e4_, qd, _, _, _, _, _, _, _⟩ := at_T34 HCOR.out b_ hi2.1 hi2.2
              subst e1_ e2_ e3_ e4_
              rw [Int.toNat_natCast] at qa qb
              replace qa := (HB.out.cell (World.block_lt_of_cell? w4 _ qa)).trans qa
              replace qb := (HB.out.cell (World.block_lt_of_cell? w4 _ qb)).trans qb
              replace qc := (HB.out.cell (World.block_lt_of_cell? w4 _ qc)).trans qc
              replace qd := (HB.out.cell (World.block_lt_of_cell? w4 _ qd)).trans qd
              have z0 : (0 ≤ a_) = True := eq_true hi1.1
              have z1 : (a_ < (ps.length : Int)) = True := eq_true hi1.2
              have z2 : (0 ≤ b_) = True := eq_true hi2.1
              have z3 : (b_ < ((turnedP ps turn).length : Int)) = True := eq_true hi2.2
              have z4 : (x < r.1.length) = True := eq_true hlt
              have z5 : ((x : Int) < (r.1.length : Int)) = True := eq_true (by omega)
              have HLT := Aside0.mk hlt
              clear hi1 hi2 ha_ hb_ ha2 hb2 hlt hl12
              go_upto_region 15 with (fail)
              refine start_ (n := 17) (S := fun w' => w'.cell? (al_.add x) = some (.int .i64 a_) ∧ w'.cell? (am_.add x) = some (.int .i64 b_) ∧ w'.cell? (ad_.add (a_.toNat * 4)) = some (.string (rd_T34 ps a_).f0) ∧ w'.cell? (ao_.add (b_.toNat * 4)) = some (.string (rd_T34 (turnedP ps turn) b_).f0)) (ds := []) #[false, false, false, false, false, false, false, false, false, false, false, false, false, false, false, false, false] (by kernel_rfl) rfl rfl ⟨qa, qb, qc, qd⟩ (fun hHeld => ?_); refine with_tabW pturn.tab15 pturn.bits15 (fun HT_ HW_ => ?_)
              refine pure_ (i := 0) (N := some 82) (v := ?_) (a' := ?_) #[true, false, false, false, false, false, false, false, false, false, false, false, false, false, false, false, false] rfl rfl (any_of HT_.out (by kernel_rfl)) (fun _ _ _ h => h) (Or.inl ⟨by rfl, ?_⟩) ?_ ?_
              rotate_left
              · intro w'
                go_simp
                with_reducible rfl
              rotate_left
              · simp only [Act.put, List.setIfInBounds_toArray, List.set_cons_zero, List.set_cons_succ, i64_w, i32_w]
                rfl
              refine pure_ (i := 1) (N := some 83) (v := ?_) (a' := ?_) #[true, true, false, false, false, false, false, false, false, false, false, false, false, false, false, false, false] rfl rfl (any_of HT_.out (by kernel_rfl)) (fun _ _ _ h => h) (Or.inl ⟨by rfl, ?_⟩) ?_ ?_
              rotate_left
              · intro w'
                go_simp
                with_reducible rfl
              rotate_left
              · simp only [Act.put, List.setIfInBounds_toArray, List.set_cons_zero, List.set_cons_succ, i64_w, i32_w]
                rfl
              refine pure_ (i := 2) (N := some 84) (v := ?_) (a' := ?_) #[true, true, true, false, false, false, false, false, false, false, false, false, false, false, false, false, false] rfl rfl (any_of HT_.out (by kernel_rfl)) (fun _ _ _ h => h) (Or.inl ⟨by rfl, ?_⟩) ?_ ?_
              rotate_left
              · intro w'
                go_simp
                with_reducible rfl
              rotate_left
              · simp only [Act.put, List.setIfInBounds_toArray, List.set_cons_zero, List.set_cons_succ, i64_w, i32_w]
                rfl
              refine pure_ (i := 3) (N := some 85) (v := ?_) (a' := ?_) #[true, true, true, true, false, false, false, false, false, false, false, false, false, false, false, false, false] rfl rfl (any_of HT_.out (by kernel_rfl)) (fun _ _ _ h => h) (Or.inl ⟨by rfl, ?_⟩) ?_ ?_
              rotate_left
              · intro w'
                go_simp
                with_reducible rfl
              rotate_left
              · simp only [Act.put, List.setIfInBounds_toArray, List.set_cons_zero, List.set_cons_succ, i64_w, i32_w]
                rfl
              refine take_ (i := 4) (N := some 86) (v := ?_) (a' := ?_) #[true, true, true, true, true, false, false, false, false, false, false, false, false, false, false, false, false] rfl rfl (take_ofW HT_.out HW_.out (by kernel_rfl)) (fun _ _ _ h => h) (Or.inl ⟨by rfl, ?_⟩) hHeld ?_ ?_
              rotate_left
              · rintro w' ⟨s0, s1, s2, s3⟩
                go_simp
                with_reducible rfl
              rotate_left
              · simp only [Act.put, List.setIfInBounds_toArray, List.set_cons_zero, List.set_cons_succ, i64_w, i32_w]
                rfl
              refine pure_ (i := 5) (N := some 87) (v := ?_) (a' := ?_) #[true, true, true, true, true, true, false, false, false, false, false, false, false, false, false, false, false] rfl rfl (any_of HT_.out (by kernel_rfl)) (fun _ _ _ h => h) (Or.inl ⟨by rfl, ?_⟩) ?_ ?_
              rotate_left
              · intro w'
                go_simp
                with_reducible rfl
              rotate_left
              · simp only [Act.put, List.setIfInBounds_toArray, List.set_cons_zero, List.set_cons_succ, i64_w, i32_w]
                rfl
              refine pure_ (i := 6) (N := some 88) (v := ?_) (a' := ?_) #[true, true, true, true, true, true, true, false, false, false, false, false, false, false, false, false, false] rfl rfl (any_of HT_.out (by kernel_rfl)) (fun _ _ _ h => h) (Or.inl ⟨by rfl, ?_⟩) ?_ ?_
              rotate_left
              · intro w'
                go_simp
                with_reducible rfl
              rotate_left
              · simp only [Act.put, List.setIfInBounds_toArray, List.set_cons_zero, List.set_cons_succ, i64_w, i32_w]
                rfl
              refine take_ (i := 7) (N := some 89) (v := ?_) (a' := ?_) #[true, true, true, true, true, true, true, true, false, false, false, false, false, false, false, false, false] rfl rfl (take_ofW HT_.out HW_.out (by kernel_rfl)) (fun _ _ _ h => h) (Or.inl ⟨by rfl, ?_⟩) hHeld ?_ ?_
              rotate_left
              · rintro w' ⟨s0, s1, s2, s3⟩
                go_simp
                with_reducible rfl
              rotate_left
              · simp only [Act.put, List.setIfInBounds_toArray, List.set_cons_zero, List.set_cons_succ, i64_w, i32_w]
                rfl
              refine pure_ (i := 8) (N := some 90) (v := ?_) (a' := ?_) #[true, true, true, true, true, true, true, true, true, false, false, false, false, false, false, false, false] rfl rfl (any_of HT_.out (by kernel_rfl)) (fun _ _ _ h => h) (Or.inl ⟨by rfl, ?_⟩) ?_ ?_
              rotate_left
              · intro w'
                go_simp
                with_reducible rfl
              rotate_left
              · simp only [Act.put, List.setIfInBounds_toArray, List.set_cons_zero, List.set_cons_succ, i64_w, i32_w]
                rfl
              refine pure_ (i := 9) (N := some 91) (v := ?_) (a' := ?_) #[true, true, true, true, true, true, true, true, true, true, false, false, false, false, false, false, false] rfl rfl (any_of HT_.out (by kernel_rfl)) (fun _ _ _ h => h) (Or.inl ⟨by rfl, ?_⟩) ?_ ?_
              rotate_left
              · intro w'
                go_simp
                with_reducible rfl
              rotate_left
              · simp only [Act.put, List.setIfInBounds_toArray, List.set_cons_zero, List.set_cons_succ, i64_w, i32_w]
                rfl
              refine pure_ (i := 10) (N := some 92) (v := ?_) (a' := ?_) #[true, true, true, true, true, true, true, true, true, true, true, false, false, false, false, false, false] rfl rfl (any_of HT_.out (by kernel_rfl)) (fun _ _ _ h => h) (Or.inl ⟨by rfl, ?_⟩) ?_ ?_
              rotate_left
              · intro w'
                go_simp
                with_reducible rfl
              rotate_left
              · simp only [Act.put, List.setIfInBounds_toArray, List.set_cons_zero, List.set_cons_succ, i64_w, i32_w]
                rfl
              refine pure_ (i := 11) (N := some 93) (v := ?_) (a' := ?_) #[true, true, true, true, true, true, true, true, true, true, true, true, false, false, false, false, false] rfl rfl (any_of HT_.out (by kernel_rfl)) (fun _ _ _ h => h) (Or.inl ⟨by rfl, ?_⟩) ?_ ?_
              rotate_left
              · intro w'
                go_simp
                with_reducible rfl
              rotate_left
              · simp only [Act.put, List.setIfInBounds_toArray, List.set_cons_zero, List.set_cons_succ, i64_w, i32_w]
                rfl
              refine take_ (i := 12) (N := some 94) (v := ?_) (a' := ?_) #[true, true, true, true, true, true, true, true, true, true, true, true, true, false, false, false, false] rfl rfl (take_ofW HT_.out HW_.out (by kernel_rfl)) (fun _ _ _ h => h) (Or.inl ⟨by rfl, ?_⟩) hHeld ?_ ?_
              rotate_left
              · rintro w' ⟨s0, s1, s2, s3⟩
                go_simp
                with_reducible rfl
              rotate_left
              · simp only [Act.put, List.setIfInBounds_toArray, List.set_cons_zero, List.set_cons_succ, i64_w, i32_w]
                rfl
              refine pure_ (i := 13) (N := some 95) (v := ?_) (a' := ?_) #[true, true, true, true, true, true, true, true, true, true, true, true, true, true, false, false, false] rfl rfl (any_of HT_.out (by kernel_rfl)) (fun _ _ _ h => h) (Or.inl ⟨by rfl, ?_⟩) ?_ ?_
              rotate_left
              · intro w'
                go_simp
                with_reducible rfl
              rotate_left
              · simp only [Act.put, List.setIfInBounds_toArray, List.set_cons_zero, List.set_cons_succ, i64_w, i32_w]
                rfl
              refine pure_ (i := 14) (N := some 96) (v := ?_) (a' := ?_) #[true, true, true, true, true, true, true, true, true, true, true, true, true, true, true, false, false] rfl rfl (any_of HT_.out (by kernel_rfl)) (fun _ _ _ h => h) (Or.inl ⟨by rfl, ?_⟩) ?_ ?_
              rotate_left
              · intro w'
                go_simp
                with_reducible rfl
              rotate_left
              · simp only [Act.put, List.setIfInBounds_toArray, List.set_cons_zero, List.set_cons_succ, i64_w, i32_w]
                rfl
              refine take_ (i := 15) (N := some 97) (v := ?_) (a' := ?_) #[true, true, true, true, true, true, true, true, true, true, true, true, true, true, true, true, false] rfl rfl (take_ofW HT_.out HW_.out (by kernel_rfl)) (fun _ _ _ h => h) (Or.inl ⟨by rfl, ?_⟩) hHeld ?_ ?_
              rotate_left
              · rintro w' ⟨s0, s1, s2, s3⟩
                go_simp
                with_reducible rfl
              rotate_left
              · simp only [Act.put, List.setIfInBounds_toArray, List.set_cons_zero, List.set_cons_succ, i64_w, i32_w]
                rfl
              refine pure_ (i := 16) (N := some 98) (v := ?_) (a' := ?_) #[true, true, true, true, true, true, true, true, true, true, true, true, true, true, true, true, true] rfl rfl (any_of HT_.out (by kernel_rfl)) (fun _ _ _ h => h) (Or.inl ⟨by rfl, ?_⟩) ?_ ?_
              rotate_left
              · intro w'
                go_simp
                with_reducible rfl
              rotate_left
              · simp only [Act.put, List.setIfInBounds_toArray, List.set_cons_zero, List.set_cons_succ, i64_w, i32_w]
                rfl
              refine done_ (done_of HT_.out (by kernel_rfl)) ?_
              go_wp2_with (fail)
              go_roundg (gk - 1)
              case measure => have := HKQ.out; have := HLT.out; omega
              case rel => exact ⟨x + 1, (by first | rfl | rw [hw1]), HLT.out, ⟨by have := HKQ.out; have := HLT.out; omega⟩, ⟨(by repeat (first | (with_reducible first | exact HB.out | apply below_alloc | apply pw_below_drewN | apply below_drew1) | exact HB.out))⟩⟩
            · have c0_ : decide ((x : Int) < (r.1.length : Int)) = false := decide_eq_false (by omega)
              go_wp2_with (fail)
              go_ret
              exact ⟨rfl, below_step HB4.out (by repeat (first | (with_reducible first | exact HB.out | apply below_alloc | apply pw_below_drewN | apply below_drew1) | exact HB.out))⟩
end Go.Proofs.YtgfdcakeplamnaaDoor.Hd
