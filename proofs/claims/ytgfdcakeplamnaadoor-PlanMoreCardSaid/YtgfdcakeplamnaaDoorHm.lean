/- PlanMore, walked. -/
import Derived.Test.YtgfdcakeplamnaaDoorPAllx4
import Derived.Test.YtgfdcakeplamnaaDoorPAllx5
import Derived.Test.YtgfdcakeplamnaaDoorPAllx6
import Derived.Test.YtgfdcakeplamnaaDoorPAllx8
import Derived.Test.YtgfdcakeplamnaaDoorHt
namespace Go.Proofs.YtgfdcakeplamnaaDoor.Hd
open Go.RowKit Go.Proofs.YtgfdcakeplamnaaDoor.PAll.Hd Go.Proofs.YtgfdcakeplamnaaDoorW.PrintWords Go.Proofs.YtgfdcakeplamnaaDoorW.PrintLast Go.Proofs.YtgfdcakeplamnaaDoorW.PrintMore Go.Proofs.YtgfdcakeplamnaaDoor.PAll
attribute [local go_sem] max2_int min2_int max_two min_two max_three min_three max_four min_four
set_option linter.unusedVariables false
set_option linter.unusedSimpArgs false
/-- The row without one number. -/
abbrev noB (n : Int) (l : List Int) : List Int := l.filter fun i => decide (i ≠ n)
theorem noB_step (n : Int) (l : List Int) (x : Nat) (hx : x < l.length) : noB n (l.take (x + 1)) = if l[x] = n then noB n (l.take x) else noB n (l.take x) ++ [l[x]] := by
  rw [List.take_succ_eq_append_getElem hx]
  unfold noB
  rw [List.filter_append]
  by_cases h : l[x] = n
  · rw [if_pos h, List.filter_cons_of_neg (by simpa using h), List.filter_nil, List.append_nil]
  · rw [if_neg h, List.filter_cons_of_pos (by simpa using h), List.filter_nil]
theorem noB_at (n : Int) (l l1 : List Int) (h : noB n l = l1) (x : Nat) (hx : x < l.length) (hne : l[x] ≠ n) : ∃ hy : (noB n (l.take x)).length < l1.length, l1[(noB n (l.take x)).length] = l[x] := by
  have e : l1 = noB n (l.take x) ++ l[x] :: noB n (l.drop (x + 1)) := by
    rw [← h]
    conv => lhs; rw [show l = l.take x ++ l[x] :: l.drop (x + 1) by rw [← List.drop_eq_getElem_cons hx, List.take_append_drop]]
    unfold noB
    rw [List.filter_append, List.filter_cons_of_pos (by simpa using hne)]
  subst e
  exact ⟨by rw [List.length_append, List.length_cons]; omega, by rw [List.getElem_append_right (Nat.le_refl _)]; simp⟩
theorem rd34_ (ps : List S34) (x : Nat) (hx : x < ps.length) : rd_T34 ps (x : Int) = ps[x] := by
  unfold rd_T34
  rw [Int.toNat_natCast, List.getD_eq_getElem?_getD, List.getElem?_eq_getElem hx]
  rfl
theorem f_old {w W : World} {A : Option Addr} {xs : List S34} (h : Kd.C k34 w A xs.length xs) (hb : Below w.heap.size w W) : Kd.F k34 W (fun k => k < w.heap.size) A xs.length xs :=
  fun W' hW => heap34.C (fun k hlt => (hW k hlt (Nat.lt_of_lt_of_le hlt hb.size)).trans (hb.block k hlt)) h
def pmore.T20 : Bool × List (List Nat × List Nat) := (true, [([], []), ([], []), ([1], [1]), ([0, 2], [0, 2]), ([3], [3]), ([4], [4]), ([4], [4]), ([5, 6, 4], [4, 5, 6]), ([7, 4], [4, 7]), ([4], [4]), ([4], [4]), ([9, 10, 4], [4, 9, 10]), ([11, 4], [4, 11]), ([8, 12, 4], [4, 8, 12]), ([4, 13], [4, 13])])
def pmore.B20 : List Nat := [0, 0, 2, 7, 15, 31, 31, 127, 255, 31, 31, 1567, 3615, 8191, 16383]
theorem pmore.tab20 : rtab .any (opsOf Tryd.f5 20) = pmore.T20 := by kernel_rfl
theorem pmore.bits20 : waitsOk pmore.T20.2 pmore.B20 = true := by kernel_rfl
abbrev newP (name : ByteArray) : S34 := ⟨name, 1, [], []⟩
set_option maxHeartbeats 16000000 in
set_option maxRecDepth 100000 in
theorem law_more (k : Nat) (A0 : Option Addr) (c0 : Nat) (th : List ByteArray) (A1 : Option Addr) (c1 : Nat) (ps : List S34) (name : ByteArray) (b1 b2 : Bool) (r r2 : List Int × Int × ByteArray) (nb : S34 → Bool) (c : Bool) (w : World) (hr0 : Kd.C Kd.string w A0 th.length th) (hc0 : th.length ≤ c0) (hr1 : Kd.C k34 w A1 ps.length ps) (hc1 : ps.length ≤ c1)
    (hw : monticulelaw28_awake.f k = some true) (h1 : monticulelaw28_few.f k th = some b1) (h2 : monticuleref28_Few.f k ps 7 = some b2)
    (hx : b1 = true → b2 = true → name.size ≤ 60 → ps.length ≤ 7 ∧ (∀ p ∈ ps, monticuleref06_In.f k p.f2 name = some (nb p)) ∧ ((∀ p ∈ ps, p.f0 ≠ name ∧ nb p = false) →
      plan_Order.f k th ps = some r ∧ plan_Order.f k th (ps ++ [newP name]) = some r2 ∧ monticuleref06_Class.f k name = some c ∧ r.1.length ≤ 1000 ∧ r2.1.length ≤ 1000 ∧
        (c = false → (r.2.1 ≠ 0 ∧ r2.2.1 ≠ 0) ∨ (r2.2.1 = 2 ∧ r2.2.2 = name)) ∧ (c = true → r2.2.1 = r.2.1 ∧ (r.2.1 = 0 → noB (ps.length : Int) r2.1 = r.1 ∧ r2.1.length = r.1.length + 1)))) :
    Calls Tryd.prog 5 #[.slice A0 th.length c0, .slice A1 ps.length c1, .string name] w fun e w' => e = .returned (.bool true) ∧ Below w.heap.size w w' := by
  have hu34 := Tryd.underlying34
  have HR0 := Aside0.mk hr0
  have HC0 := Aside0.mk hc0
  have HR1 := Aside0.mk hr1
  have HC1 := Aside0.mk hc1
  have HW := Aside0.mk hw
  have HF1 := Aside0.mk h1
  have HF2 := Aside0.mk h2
  clear hr0 hc0 hr1 hc1 hw h1 h2
  have HB := Aside0.mk (Below.refl w.heap.size w)
  cases b1 with
  | false =>
    clear hx
    go_enter Tryd.func5, Tryd.ntmps5
    go_wp2_with (first | (go_at_call 7; (with_reducible refine (monticulelaw28_awake.calls k true _ HW.out).mono ?_); rintro e wa ⟨rfl, hb_⟩; have n0_ := Aside0.mk (below_step (by repeat (first | (with_reducible first | exact HB.out | apply below_alloc | apply pw_below_drewN | apply below_drew1) | exact HB.out)) hb_); clear HB hb_; have HB := n0_; clear n0_) | (go_at_call 8; (with_reducible refine (monticulelaw28_few.calls k A0 c0 th false _ ?side1 HC0.out HF1.out).mono ?_); (case side1 => exact Kd.C_below HR0.out (by repeat (first | (with_reducible first | exact HB.out | apply below_alloc | apply pw_below_drewN | apply below_drew1) | exact HB.out))); rintro e wb ⟨rfl, hd_⟩; have hb_ := Drawn0.below hd_; clear hd_; have n0_ := Aside0.mk (below_step (by repeat (first | (with_reducible first | exact HB.out | apply below_alloc | apply pw_below_drewN | apply below_drew1) | exact HB.out)) hb_); clear HB hb_; have HB := n0_; clear n0_))
    go_ret
    exact ⟨rfl, (by repeat (first | (with_reducible first | exact HB.out | apply below_alloc | apply pw_below_drewN | apply below_drew1) | exact HB.out))⟩
  | true =>
    cases b2 with
    | false =>
      clear hx
      go_enter Tryd.func5, Tryd.ntmps5
      go_wp2_with (first | (go_at_call 7; (with_reducible refine (monticulelaw28_awake.calls k true _ HW.out).mono ?_); rintro e wa ⟨rfl, hb_⟩; have n0_ := Aside0.mk (below_step (by repeat (first | (with_reducible first | exact HB.out | apply below_alloc | apply pw_below_drewN | apply below_drew1) | exact HB.out)) hb_); clear HB hb_; have HB := n0_; clear n0_) | (go_at_call 8; (with_reducible refine (monticulelaw28_few.calls k A0 c0 th true _ ?side1 HC0.out HF1.out).mono ?_); (case side1 => exact Kd.C_below HR0.out (by repeat (first | (with_reducible first | exact HB.out | apply below_alloc | apply pw_below_drewN | apply below_drew1) | exact HB.out))); rintro e wb ⟨rfl, hd_⟩; have hb_ := Drawn0.below hd_; clear hd_; have n0_ := Aside0.mk (below_step (by repeat (first | (with_reducible first | exact HB.out | apply below_alloc | apply pw_below_drewN | apply below_drew1) | exact HB.out)) hb_); clear HB hb_; have HB := n0_; clear n0_) | (go_at_call 9; (with_reducible refine (monticuleref28_Few.calls k A1 c1 ps 7 false _ ?side1 HC1.out HF2.out).mono ?_); (case side1 => exact Kd.C_below HR1.out (by repeat (first | (with_reducible first | exact HB.out | apply below_alloc | apply pw_below_drewN | apply below_drew1) | exact HB.out))); rintro e wc ⟨rfl, hb_⟩; have n0_ := Aside0.mk (below_step (by repeat (first | (with_reducible first | exact HB.out | apply below_alloc | apply pw_below_drewN | apply below_drew1) | exact HB.out)) hb_); clear HB hb_; have HB := n0_; clear n0_))
      go_ret
      exact ⟨rfl, (by repeat (first | (with_reducible first | exact HB.out | apply below_alloc | apply pw_below_drewN | apply below_drew1) | exact HB.out))⟩
    | true =>
      by_cases hn : name.size ≤ 60
      case neg =>
        clear hx
        have cn_ : decide ((60 : Int) < (name.size : Int)) = true := decide_eq_true (by omega)
        have cn2_ : ((60 : Int) < (name.size : Int)) = True := eq_true (by omega)
        go_enter Tryd.func5, Tryd.ntmps5
        go_wp2_with (first | (go_at_call 7; (with_reducible refine (monticulelaw28_awake.calls k true _ HW.out).mono ?_); rintro e wa ⟨rfl, hb_⟩; have n0_ := Aside0.mk (below_step (by repeat (first | (with_reducible first | exact HB.out | apply below_alloc | apply pw_below_drewN | apply below_drew1) | exact HB.out)) hb_); clear HB hb_; have HB := n0_; clear n0_) | (go_at_call 8; (with_reducible refine (monticulelaw28_few.calls k A0 c0 th true _ ?side1 HC0.out HF1.out).mono ?_); (case side1 => exact Kd.C_below HR0.out (by repeat (first | (with_reducible first | exact HB.out | apply below_alloc | apply pw_below_drewN | apply below_drew1) | exact HB.out))); rintro e wb ⟨rfl, hd_⟩; have hb_ := Drawn0.below hd_; clear hd_; have n0_ := Aside0.mk (below_step (by repeat (first | (with_reducible first | exact HB.out | apply below_alloc | apply pw_below_drewN | apply below_drew1) | exact HB.out)) hb_); clear HB hb_; have HB := n0_; clear n0_) | (go_at_call 9; (with_reducible refine (monticuleref28_Few.calls k A1 c1 ps 7 true _ ?side1 HC1.out HF2.out).mono ?_); (case side1 => exact Kd.C_below HR1.out (by repeat (first | (with_reducible first | exact HB.out | apply below_alloc | apply pw_below_drewN | apply below_drew1) | exact HB.out))); rintro e wc ⟨rfl, hb_⟩; have n0_ := Aside0.mk (below_step (by repeat (first | (with_reducible first | exact HB.out | apply below_alloc | apply pw_below_drewN | apply below_drew1) | exact HB.out)) hb_); clear HB hb_; have HB := n0_; clear n0_))
        go_ret
        exact ⟨rfl, (by repeat (first | (with_reducible first | exact HB.out | apply below_alloc | apply pw_below_drewN | apply below_drew1) | exact HB.out))⟩
      case pos =>
        obtain ⟨hp7, hin, hrest⟩ := hx rfl rfl hn
        have HP7 := Aside0.mk hp7
        have HIN := Aside0.mk hin
        have HREST := Aside0.mk hrest
        clear hx hp7 hin hrest
        have cn_ : decide ((60 : Int) < (name.size : Int)) = false := decide_eq_false (by omega)
        have cn2_ : ((60 : Int) < (name.size : Int)) = False := eq_false (by omega)
        go_enter Tryd.func5, Tryd.ntmps5
        go_wp2_with (first | (go_at_call 7; (with_reducible refine (monticulelaw28_awake.calls k true _ HW.out).mono ?_); rintro e wa ⟨rfl, hb_⟩; have n0_ := Aside0.mk (below_step (by repeat (first | (with_reducible first | exact HB.out | apply below_alloc | apply pw_below_drewN | apply below_drew1) | exact HB.out)) hb_); clear HB hb_; have HB := n0_; clear n0_) | (go_at_call 8; (with_reducible refine (monticulelaw28_few.calls k A0 c0 th true _ ?side1 HC0.out HF1.out).mono ?_); (case side1 => exact Kd.C_below HR0.out (by repeat (first | (with_reducible first | exact HB.out | apply below_alloc | apply pw_below_drewN | apply below_drew1) | exact HB.out))); rintro e wb ⟨rfl, hd_⟩; have hb_ := Drawn0.below hd_; clear hd_; have n0_ := Aside0.mk (below_step (by repeat (first | (with_reducible first | exact HB.out | apply below_alloc | apply pw_below_drewN | apply below_drew1) | exact HB.out)) hb_); clear HB hb_; have HB := n0_; clear n0_) | (go_at_call 9; (with_reducible refine (monticuleref28_Few.calls k A1 c1 ps 7 true _ ?side1 HC1.out HF2.out).mono ?_); (case side1 => exact Kd.C_below HR1.out (by repeat (first | (with_reducible first | exact HB.out | apply below_alloc | apply pw_below_drewN | apply below_drew1) | exact HB.out))); rintro e wc ⟨rfl, hb_⟩; have n0_ := Aside0.mk (below_step (by repeat (first | (with_reducible first | exact HB.out | apply below_alloc | apply pw_below_drewN | apply below_drew1) | exact HB.out)) hb_); clear HB hb_; have HB := n0_; clear n0_))
        clear cn_ cn2_
        go_loopg [7] ps.length (fun kq v7 w' => ∃ (x : Nat), v7 = .int .i64 (x : Int) ∧ x ≤ ps.length ∧ Aside0 (kq + x = ps.length) ∧ Aside0 (∀ (i : Nat) (h : i < ps.length), i < x → ps[i].f0 ≠ name ∧ nb ps[i] = false) ∧ Aside0 (Below w.heap.size w w'))
        case atStart => exact ⟨0, rfl, Nat.zero_le _, ⟨rfl⟩, ⟨fun i h h0 => absurd h0 (Nat.not_lt_zero i)⟩, ⟨(by repeat (first | (with_reducible first | exact HB.out | apply below_alloc | apply pw_below_drewN | apply below_drew1) | exact HB.out))⟩⟩
        case round =>
          clear HB
          obtain ⟨x, rfl, p1, HKQ, HNO, HB⟩ := hrel
          by_cases hlt : x < ps.length
          · have c0_ : decide ((x : Int) < (ps.length : Int)) = true := decide_eq_true (by omega)
            have HX := Aside0.mk (show x < ps.length ∧ ps.length ≤ 7 from ⟨hlt, HP7.out⟩)
            have hw1 : wrap64 ((x : Int) + 1) = ((x + 1 : Nat) : Int) := by rw [IntWalk.wrap64_in _ (by have := HP7.out; omega)]; omega
            obtain ⟨p_, hp_⟩ : ∃ p, p = ps[x] := ⟨_, rfl⟩
            obtain ⟨b_, hb_⟩ : ∃ b, b = nb p_ := ⟨_, rfl⟩
            have HI := Aside0.mk (show monticuleref06_In.f k p_.f2 name = some b_ by rw [hb_, hp_]; exact HIN.out _ (List.getElem_mem hlt))
            have hPB : ∀ h : x < ps.length, ps[x].f0 = p_.f0 ∧ nb ps[x] = b_ := fun h => by rw [hb_, hp_]; exact ⟨rfl, rfl⟩
            have HPB := Aside0.mk hPB
            obtain ⟨ad, A2, c2, A3, c3, e_, q0, _, q2, _, hl2, hi2, _, _⟩ := at_T34 HR1.out (x : Int) (by omega) (by omega)
            rw [rd34_ ps x hlt, ← hp_] at q0 q2 hl2 hi2
            rw [Int.toNat_natCast] at q0 q2
            subst e_
            have HL2 := Aside0.mk hl2
            have HI2 := Aside0.mk (Kd.C_below hi2 HB.out)
            replace q0 := (HB.out.cell (World.block_lt_of_cell? w _ q0)).trans q0
            replace q2 := (HB.out.cell (World.block_lt_of_cell? w _ q2)).trans q2
            have p1_ : ((x : Int) < (ps.length : Int)) = True := eq_true (by omega)
            have p2_ : (x < ps.length) = True := eq_true hlt
            have HBR := HB
            clear HB
            have HB := Aside0.mk (Below.refl wr.heap.size wr)
            clear hl2 hi2 hp_ hb_ hPB hlt
            by_cases he : p_.f0.toList = name.toList
            · have z2 : (p_.f0.toList == name.toList) = true := beq_iff_eq.mpr he
              clear he
              go_wp2_with (fail)
              go_ret
              exact ⟨rfl, below_step HBR.out (by repeat (first | (with_reducible first | exact HB.out | apply below_alloc | apply pw_below_drewN | apply below_drew1) | exact HB.out))⟩
            · have z2 : (p_.f0.toList == name.toList) = false := beq_eq_false_iff_ne.mpr he
              have HE := Aside0.mk (show p_.f0 ≠ name from fun h_ => he (by rw [h_]))
              clear he
              cases b_ with
              | true =>
                go_wp2_with (first | (go_at_call 11; (with_reducible refine (monticuleref06_In.calls k A2 c2 p_.f2 name _ _ ?side1 HL2.out HI.out).mono ?_); (case side1 => exact Kd.C_below HI2.out (by repeat (first | (with_reducible first | exact HB.out | apply below_alloc | apply pw_below_drewN | apply below_drew1) | exact HB.out))); rintro e wb ⟨rfl, hd_⟩; have hb_ := Drawn0.below hd_; clear hd_; have n0_ := Aside0.mk (below_step (by repeat (first | (with_reducible first | exact HB.out | apply below_alloc | apply pw_below_drewN | apply below_drew1) | exact HB.out)) hb_); clear HB hb_; have HB := n0_; clear n0_))
                go_ret
                exact ⟨rfl, below_step HBR.out (by repeat (first | (with_reducible first | exact HB.out | apply below_alloc | apply pw_below_drewN | apply below_drew1) | exact HB.out))⟩
              | false =>
                go_wp2_with (first | (go_at_call 11; (with_reducible refine (monticuleref06_In.calls k A2 c2 p_.f2 name _ _ ?side1 HL2.out HI.out).mono ?_); (case side1 => exact Kd.C_below HI2.out (by repeat (first | (with_reducible first | exact HB.out | apply below_alloc | apply pw_below_drewN | apply below_drew1) | exact HB.out))); rintro e wb ⟨rfl, hd_⟩; have hb_ := Drawn0.below hd_; clear hd_; have n0_ := Aside0.mk (below_step (by repeat (first | (with_reducible first | exact HB.out | apply below_alloc | apply pw_below_drewN | apply below_drew1) | exact HB.out)) hb_); clear HB hb_; have HB := n0_; clear n0_))
                go_roundg (gk - 1)
                case measure => have := HKQ.out; have := HX.out; omega
                case rel =>
                  refine ⟨x + 1, (by first | rfl | rw [hw1]), HX.out.1, ⟨by have := HKQ.out; have := HX.out; omega⟩, ⟨fun i h h0 => ?_⟩, ⟨below_step HBR.out (by repeat (first | (with_reducible first | exact HB.out | apply below_alloc | apply pw_below_drewN | apply below_drew1) | exact HB.out))⟩⟩
                  rcases Nat.lt_succ_iff_lt_or_eq.1 h0 with h0 | rfl
                  · exact HNO.out i h h0
                  · exact ⟨fun h_ => HE.out (by rw [← h_]; exact (HPB.out h).1.symm), (HPB.out h).2⟩
          · have c0_ : decide ((x : Int) < (ps.length : Int)) = false := decide_eq_false (by omega)
            obtain ⟨hor, hor2, hcl, hL1, hL2, hcf, hct⟩ := HREST.out (fun p hp => by
              obtain ⟨i, hi, rfl⟩ := List.getElem_of_mem hp
              exact HNO.out i hi (by omega))
            have hxe : x = ps.length := by omega
            clear HNO HKQ HIN HREST hlt p1 c0_
            subst hxe
            obtain ⟨l1, e1, n1⟩ := r
            obtain ⟨l2, e2, n2⟩ := r2
            obtain ⟨qs, hqs⟩ : ∃ qs, qs = ps ++ [newP name] := ⟨_, rfl⟩
            rw [← hqs] at hor2
            simp only at hL1 hL2 hcf hct
            have HQS := Aside0.mk hqs
            have HOR := Aside0.mk hor
            have HOR2 := Aside0.mk hor2
            have HCL := Aside0.mk hcl
            have HL1 := Aside0.mk hL1
            have HLL2 := Aside0.mk hL2
            have HBA := HB
            clear HB
            have HB := Aside0.mk (Below.refl wr.heap.size wr)
            clear hqs hor hor2 hcl hL1 hL2
            cases c with
            | false =>
              have hcf2 := hcf rfl
              clear hct hcf
              by_cases he1 : e1 = 0
              · have he2 : e2 = 2 ∧ n2 = name := by
                  rcases hcf2 with h_ | h_
                  · exact absurd he1 h_.1
                  · exact h_
                obtain ⟨h2_, h3_⟩ := he2
                subst h2_
                have h4_ := h3_.symm
                clear h3_
                subst h4_
                subst he1
                clear hcf2
                go_wp2_with (first | (go_at_call 10; (with_reducible refine (plan_Order.calls k A0 c0 th A1 c1 ps l1 _ _ _ ?side1 HC0.out ?side2 HC1.out HOR.out).mono ?_); (case side1 => exact Kd.C_below HR0.out (below_step HBA.out (by repeat (first | (with_reducible first | exact HB.out | apply below_alloc | apply pw_below_drewN | apply below_drew1) | exact HB.out)))); (case side2 => exact Kd.C_below HR1.out (below_step HBA.out (by repeat (first | (with_reducible first | exact HB.out | apply below_alloc | apply pw_below_drewN | apply below_drew1) | exact HB.out)))); rintro er w3 ⟨v1, rfl, ho1, hb_⟩; obtain ⟨Al, cl, rfl, hl1_, hC1_⟩ := Kd.R_reads ho1; have n0_ := Aside0.mk (below_step HBA.out (below_step (by repeat (first | (with_reducible first | exact HB.out | apply below_alloc | apply pw_below_drewN | apply below_drew1) | exact HB.out)) hb_)); have HV1 := Aside0.mk (Kd.R_mono (ok' := fun k => True) ho1 (fun _ _ => trivial)); clear HBA HB hb_ ho1 hl1_ hC1_; have HBA := n0_; have HB := Aside0.mk (Below.refl w3.heap.size w3); clear n0_) | ((with_reducible refine gate_dst (N := 64) rfl ?_); refine Kd.N_lit k34 (w0 := w3) w3.heap.size 34 ?hg (N' := 64) ?hd (xs := ([] : List S34)) (inner := []) (ok := fun _ => True) (okp := fun _ => True) ?hr ?hp (fun _ hk => hk) trivial (by repeat (first | (with_reducible first | exact HB.out | apply below_alloc | apply pw_below_drewN | apply below_drew1) | exact HB.out)) ((by repeat (first | (with_reducible first | exact HB.out | apply below_alloc | apply pw_below_drewN | apply below_drew1) | exact HB.out)) : Below w3.heap.size w3 _).size (by simp) ?_; (case hd => rfl); (case hg => rfl); (case hr => first | (go_simp; done) | (go_simp; rfl)); (case hp => exact Reps.none _ _); intro v64 w64 ho hb2_ _ _; have HO := Aside0.mk ho; have n1_ := Aside0.mk hb2_; clear HB ho hb2_; have HB := n1_; clear n1_) | ((with_reducible refine gate_builtin (b := .append) (xs := #[.tmp 64, .tmp 65]) rfl ?_); at_builtin; refine Kd.N_append_rows k34 (w0 := w3) w3.heap.size rfl (.tmp 64) (.tmp 65) 23 34 (.agg #[.string ⟨#[]⟩, .int .i64 0, .slice none 0 0, .slice none 0 0]) 72 rfl Tryd.underlying23 info34_ rfl (by decide) (by decide) v64 ([] : List S34) ps A1 ps.length c1 (fun _ => True) (fun k => k < w.heap.size) rfl rfl ?aO ?aF ?aN (fun _ _ => trivial) ?aB ?aS ?aL ?_; (case aO => first | exact HO.out | exact Kd.N_drewN HO.out _ | exact Kd.N_below HO.out (pw_below_drewN (Below.refl _ _) _)); (case aF => exact f_old HR1.out (below_step HBA.out (by repeat (first | (with_reducible first | exact HB.out | apply below_alloc | apply pw_below_drewN | apply below_drew1) | exact HB.out)))); (case aN => exact fun k hk => ⟨trivial, fun he => by have := n_base HO.out k he.symm; have := HBA.out.size; omega⟩); (case aB => exact (by repeat (first | (with_reducible first | exact HB.out | apply below_alloc | apply pw_below_drewN | apply below_drew1) | exact HB.out))); (case aS => exact ((by repeat (first | (with_reducible first | exact HB.out | apply below_alloc | apply pw_below_drewN | apply below_drew1) | exact HB.out)) : Below w3.heap.size w3 _).size); (case aL => have := HP7.out; simp only [List.length_nil]; omega); intro v66 w66 ho hb2_ _ _; rw [List.nil_append] at ho; have n0_ := Aside0.mk ho; have n1_ := Aside0.mk hb2_; clear HO HB ho hb2_; have HO := n0_; have HB := n1_; clear n0_ n1_) | ((with_reducible refine gate_builtin (b := .append) (xs := #[.tmp 66, .tmp 69]) rfl ?_); at_builtin; refine Kd.N_append k34 (w0 := w3) w3.heap.size rfl (.tmp 66) (.tmp 69) 23 34 (.agg #[.string ⟨#[]⟩, .int .i64 0, .slice none 0 0, .slice none 0 0]) 72 rfl Tryd.underlying23 info34_ rfl (by decide) (by decide) v66 ps (newP name) [.string name, .int .i64 1, .slice none 0 0, .slice none 0 0] (fun _ => True) (fun k => False) rfl rfl ?aP ?aN (fun _ _ => trivial) ?aO ?aB ?aS ?aL ?_; (case aP => exact fun W' _ => k34_mk W' (newP name) (Nat.le_refl _) (Kd.C_nil _ _) (Nat.le_refl _) (Kd.C_nil _ _)); (case aN => exact fun k hk => hk.elim); (case aO => first | exact HO.out | exact Kd.N_drewN HO.out _ | exact Kd.N_below HO.out (pw_below_drewN (Below.refl _ _) _)); (case aB => exact (by repeat (first | (with_reducible first | exact HB.out | apply below_alloc | apply pw_below_drewN | apply below_drew1) | exact HB.out))); (case aS => exact ((by repeat (first | (with_reducible first | exact HB.out | apply below_alloc | apply pw_below_drewN | apply below_drew1) | exact HB.out)) : Below w3.heap.size w3 _).size); (case aL => have := HP7.out; omega); intro v70 w70 ho hb2_ _ _; rw [← HQS.out] at ho; obtain ⟨Ao, co, rfl, hlo, hCo⟩ := Kd.N_reads ho; have HCO := Aside0.mk hCo; have HLO := Aside0.mk hlo; have HB9 := Aside0.mk (Below.refl w70.heap.size w70); have n1_ := Aside0.mk hb2_; clear HO HB ho hb2_ hCo hlo; have HB := n1_; clear n1_) | (go_at_call 10; (with_reducible refine (plan_Order.calls k A0 c0 th Ao co qs l2 _ _ _ ?side1 HC0.out ?side2 HLO.out HOR2.out).mono ?_); (case side1 => exact Kd.C_below HR0.out (below_step HBA.out (by repeat (first | (with_reducible first | exact HB.out | apply below_alloc | apply pw_below_drewN | apply below_drew1) | exact HB.out)))); (case side2 => exact Kd.C_below HCO.out (by repeat (first | (with_reducible first | exact HB9.out | apply below_alloc | apply pw_below_drewN | apply below_drew1) | exact HB9.out))); rintro er w4 ⟨v2, rfl, ho2, hb_⟩; obtain ⟨Am, cm, rfl, hl2_, hC2_⟩ := Kd.R_reads ho2; have n0_ := Aside0.mk (below_step HBA.out (below_step (by repeat (first | (with_reducible first | exact HB.out | apply below_alloc | apply pw_below_drewN | apply below_drew1) | exact HB.out)) hb_)); have n1_ := Aside0.mk (Kd.R_below HV1.out (below_step (by repeat (first | (with_reducible first | exact HB.out | apply below_alloc | apply pw_below_drewN | apply below_drew1) | exact HB.out)) hb_)); have HV2 := Aside0.mk (Kd.R_mono (ok' := fun k => True) ho2 (fun _ _ => trivial)); clear HBA HB HV1 HB9 HCO HLO hb_ ho2 hl2_ hC2_; have HBA := n0_; have HV1 := n1_; have HB := Aside0.mk (Below.refl w4.heap.size w4); clear n0_ n1_) | (go_at_call 13; (with_reducible refine (monticuleref06_Class.calls k name _ _ HCL.out).mono ?_); rintro e w5 ⟨rfl, hd_⟩; have hb_ := Drawn0.below hd_; clear hd_; have n0_ := Aside0.mk (below_step (by repeat (first | (with_reducible first | exact HB.out | apply below_alloc | apply pw_below_drewN | apply below_drew1) | exact HB.out)) hb_); clear HB hb_; have HB := n0_; clear n0_))
                go_ret
                exact ⟨rfl, below_step HBA.out (by repeat (first | (with_reducible first | exact HB.out | apply below_alloc | apply pw_below_drewN | apply below_drew1) | exact HB.out))⟩
              · have z1 : (e1 == 0) = false := beq_eq_false_iff_ne.mpr he1
                have z2 : decide (e1 = 0) = false := decide_eq_false he1
                have z5 : (e1 != 0) = true := bne_iff_ne.mpr he1
                have z6 : (e1 = 0) = False := eq_false he1
                have he2 : e2 ≠ 0 := by
                  rcases hcf2 with h_ | h_
                  · exact h_.2
                  · rw [h_.1]; decide
                have z3 : (e2 == 0) = false := beq_eq_false_iff_ne.mpr he2
                have z4 : decide (e2 = 0) = false := decide_eq_false he2
                have z7 : (e2 != 0) = true := bne_iff_ne.mpr he2
                have z8 : (e2 = 0) = False := eq_false he2
                clear hcf2 he1 he2
                go_wp2_with (first | (go_at_call 10; (with_reducible refine (plan_Order.calls k A0 c0 th A1 c1 ps l1 _ _ _ ?side1 HC0.out ?side2 HC1.out HOR.out).mono ?_); (case side1 => exact Kd.C_below HR0.out (below_step HBA.out (by repeat (first | (with_reducible first | exact HB.out | apply below_alloc | apply pw_below_drewN | apply below_drew1) | exact HB.out)))); (case side2 => exact Kd.C_below HR1.out (below_step HBA.out (by repeat (first | (with_reducible first | exact HB.out | apply below_alloc | apply pw_below_drewN | apply below_drew1) | exact HB.out)))); rintro er w3 ⟨v1, rfl, ho1, hb_⟩; obtain ⟨Al, cl, rfl, hl1_, hC1_⟩ := Kd.R_reads ho1; have n0_ := Aside0.mk (below_step HBA.out (below_step (by repeat (first | (with_reducible first | exact HB.out | apply below_alloc | apply pw_below_drewN | apply below_drew1) | exact HB.out)) hb_)); have HV1 := Aside0.mk (Kd.R_mono (ok' := fun k => True) ho1 (fun _ _ => trivial)); clear HBA HB hb_ ho1 hl1_ hC1_; have HBA := n0_; have HB := Aside0.mk (Below.refl w3.heap.size w3); clear n0_) | ((with_reducible refine gate_dst (N := 64) rfl ?_); refine Kd.N_lit k34 (w0 := w3) w3.heap.size 34 ?hg (N' := 64) ?hd (xs := ([] : List S34)) (inner := []) (ok := fun _ => True) (okp := fun _ => True) ?hr ?hp (fun _ hk => hk) trivial (by repeat (first | (with_reducible first | exact HB.out | apply below_alloc | apply pw_below_drewN | apply below_drew1) | exact HB.out)) ((by repeat (first | (with_reducible first | exact HB.out | apply below_alloc | apply pw_below_drewN | apply below_drew1) | exact HB.out)) : Below w3.heap.size w3 _).size (by simp) ?_; (case hd => rfl); (case hg => rfl); (case hr => first | (go_simp; done) | (go_simp; rfl)); (case hp => exact Reps.none _ _); intro v64 w64 ho hb2_ _ _; have HO := Aside0.mk ho; have n1_ := Aside0.mk hb2_; clear HB ho hb2_; have HB := n1_; clear n1_) | ((with_reducible refine gate_builtin (b := .append) (xs := #[.tmp 64, .tmp 65]) rfl ?_); at_builtin; refine Kd.N_append_rows k34 (w0 := w3) w3.heap.size rfl (.tmp 64) (.tmp 65) 23 34 (.agg #[.string ⟨#[]⟩, .int .i64 0, .slice none 0 0, .slice none 0 0]) 72 rfl Tryd.underlying23 info34_ rfl (by decide) (by decide) v64 ([] : List S34) ps A1 ps.length c1 (fun _ => True) (fun k => k < w.heap.size) rfl rfl ?aO ?aF ?aN (fun _ _ => trivial) ?aB ?aS ?aL ?_; (case aO => first | exact HO.out | exact Kd.N_drewN HO.out _ | exact Kd.N_below HO.out (pw_below_drewN (Below.refl _ _) _)); (case aF => exact f_old HR1.out (below_step HBA.out (by repeat (first | (with_reducible first | exact HB.out | apply below_alloc | apply pw_below_drewN | apply below_drew1) | exact HB.out)))); (case aN => exact fun k hk => ⟨trivial, fun he => by have := n_base HO.out k he.symm; have := HBA.out.size; omega⟩); (case aB => exact (by repeat (first | (with_reducible first | exact HB.out | apply below_alloc | apply pw_below_drewN | apply below_drew1) | exact HB.out))); (case aS => exact ((by repeat (first | (with_reducible first | exact HB.out | apply below_alloc | apply pw_below_drewN | apply below_drew1) | exact HB.out)) : Below w3.heap.size w3 _).size); (case aL => have := HP7.out; simp only [List.length_nil]; omega); intro v66 w66 ho hb2_ _ _; rw [List.nil_append] at ho; have n0_ := Aside0.mk ho; have n1_ := Aside0.mk hb2_; clear HO HB ho hb2_; have HO := n0_; have HB := n1_; clear n0_ n1_) | ((with_reducible refine gate_builtin (b := .append) (xs := #[.tmp 66, .tmp 69]) rfl ?_); at_builtin; refine Kd.N_append k34 (w0 := w3) w3.heap.size rfl (.tmp 66) (.tmp 69) 23 34 (.agg #[.string ⟨#[]⟩, .int .i64 0, .slice none 0 0, .slice none 0 0]) 72 rfl Tryd.underlying23 info34_ rfl (by decide) (by decide) v66 ps (newP name) [.string name, .int .i64 1, .slice none 0 0, .slice none 0 0] (fun _ => True) (fun k => False) rfl rfl ?aP ?aN (fun _ _ => trivial) ?aO ?aB ?aS ?aL ?_; (case aP => exact fun W' _ => k34_mk W' (newP name) (Nat.le_refl _) (Kd.C_nil _ _) (Nat.le_refl _) (Kd.C_nil _ _)); (case aN => exact fun k hk => hk.elim); (case aO => first | exact HO.out | exact Kd.N_drewN HO.out _ | exact Kd.N_below HO.out (pw_below_drewN (Below.refl _ _) _)); (case aB => exact (by repeat (first | (with_reducible first | exact HB.out | apply below_alloc | apply pw_below_drewN | apply below_drew1) | exact HB.out))); (case aS => exact ((by repeat (first | (with_reducible first | exact HB.out | apply below_alloc | apply pw_below_drewN | apply below_drew1) | exact HB.out)) : Below w3.heap.size w3 _).size); (case aL => have := HP7.out; omega); intro v70 w70 ho hb2_ _ _; rw [← HQS.out] at ho; obtain ⟨Ao, co, rfl, hlo, hCo⟩ := Kd.N_reads ho; have HCO := Aside0.mk hCo; have HLO := Aside0.mk hlo; have HB9 := Aside0.mk (Below.refl w70.heap.size w70); have n1_ := Aside0.mk hb2_; clear HO HB ho hb2_ hCo hlo; have HB := n1_; clear n1_) | (go_at_call 10; (with_reducible refine (plan_Order.calls k A0 c0 th Ao co qs l2 _ _ _ ?side1 HC0.out ?side2 HLO.out HOR2.out).mono ?_); (case side1 => exact Kd.C_below HR0.out (below_step HBA.out (by repeat (first | (with_reducible first | exact HB.out | apply below_alloc | apply pw_below_drewN | apply below_drew1) | exact HB.out)))); (case side2 => exact Kd.C_below HCO.out (by repeat (first | (with_reducible first | exact HB9.out | apply below_alloc | apply pw_below_drewN | apply below_drew1) | exact HB9.out))); rintro er w4 ⟨v2, rfl, ho2, hb_⟩; obtain ⟨Am, cm, rfl, hl2_, hC2_⟩ := Kd.R_reads ho2; have n0_ := Aside0.mk (below_step HBA.out (below_step (by repeat (first | (with_reducible first | exact HB.out | apply below_alloc | apply pw_below_drewN | apply below_drew1) | exact HB.out)) hb_)); have n1_ := Aside0.mk (Kd.R_below HV1.out (below_step (by repeat (first | (with_reducible first | exact HB.out | apply below_alloc | apply pw_below_drewN | apply below_drew1) | exact HB.out)) hb_)); have HV2 := Aside0.mk (Kd.R_mono (ok' := fun k => True) ho2 (fun _ _ => trivial)); clear HBA HB HV1 HB9 HCO HLO hb_ ho2 hl2_ hC2_; have HBA := n0_; have HV1 := n1_; have HB := Aside0.mk (Below.refl w4.heap.size w4); clear n0_ n1_) | (go_at_call 13; (with_reducible refine (monticuleref06_Class.calls k name _ _ HCL.out).mono ?_); rintro e w5 ⟨rfl, hd_⟩; have hb_ := Drawn0.below hd_; clear hd_; have n0_ := Aside0.mk (below_step (by repeat (first | (with_reducible first | exact HB.out | apply below_alloc | apply pw_below_drewN | apply below_drew1) | exact HB.out)) hb_); clear HB hb_; have HB := n0_; clear n0_))
                go_ret
                exact ⟨rfl, below_step HBA.out (by repeat (first | (with_reducible first | exact HB.out | apply below_alloc | apply pw_below_drewN | apply below_drew1) | exact HB.out))⟩
            | true =>
              obtain ⟨he2, hq⟩ := hct rfl
              clear hct hcf
              subst he2
              by_cases he1 : e2 = 0
              · subst he1
                obtain ⟨hno, hlen⟩ := hq rfl
                have HNB := Aside0.mk hno
                have HLEN := Aside0.mk hlen
                clear hq hno hlen
                go_wp2_with (first | (go_at_call 10; (with_reducible refine (plan_Order.calls k A0 c0 th A1 c1 ps l1 _ _ _ ?side1 HC0.out ?side2 HC1.out HOR.out).mono ?_); (case side1 => exact Kd.C_below HR0.out (below_step HBA.out (by repeat (first | (with_reducible first | exact HB.out | apply below_alloc | apply pw_below_drewN | apply below_drew1) | exact HB.out)))); (case side2 => exact Kd.C_below HR1.out (below_step HBA.out (by repeat (first | (with_reducible first | exact HB.out | apply below_alloc | apply pw_below_drewN | apply below_drew1) | exact HB.out)))); rintro er w3 ⟨v1, rfl, ho1, hb_⟩; obtain ⟨Al, cl, rfl, hl1_, hC1_⟩ := Kd.R_reads ho1; have n0_ := Aside0.mk (below_step HBA.out (below_step (by repeat (first | (with_reducible first | exact HB.out | apply below_alloc | apply pw_below_drewN | apply below_drew1) | exact HB.out)) hb_)); have HV1 := Aside0.mk (Kd.R_mono (ok' := fun k => True) ho1 (fun _ _ => trivial)); clear HBA HB hb_ ho1 hl1_ hC1_; have HBA := n0_; have HB := Aside0.mk (Below.refl w3.heap.size w3); clear n0_) | ((with_reducible refine gate_dst (N := 64) rfl ?_); refine Kd.N_lit k34 (w0 := w3) w3.heap.size 34 ?hg (N' := 64) ?hd (xs := ([] : List S34)) (inner := []) (ok := fun _ => True) (okp := fun _ => True) ?hr ?hp (fun _ hk => hk) trivial (by repeat (first | (with_reducible first | exact HB.out | apply below_alloc | apply pw_below_drewN | apply below_drew1) | exact HB.out)) ((by repeat (first | (with_reducible first | exact HB.out | apply below_alloc | apply pw_below_drewN | apply below_drew1) | exact HB.out)) : Below w3.heap.size w3 _).size (by simp) ?_; (case hd => rfl); (case hg => rfl); (case hr => first | (go_simp; done) | (go_simp; rfl)); (case hp => exact Reps.none _ _); intro v64 w64 ho hb2_ _ _; have HO := Aside0.mk ho; have n1_ := Aside0.mk hb2_; clear HB ho hb2_; have HB := n1_; clear n1_) | ((with_reducible refine gate_builtin (b := .append) (xs := #[.tmp 64, .tmp 65]) rfl ?_); at_builtin; refine Kd.N_append_rows k34 (w0 := w3) w3.heap.size rfl (.tmp 64) (.tmp 65) 23 34 (.agg #[.string ⟨#[]⟩, .int .i64 0, .slice none 0 0, .slice none 0 0]) 72 rfl Tryd.underlying23 info34_ rfl (by decide) (by decide) v64 ([] : List S34) ps A1 ps.length c1 (fun _ => True) (fun k => k < w.heap.size) rfl rfl ?aO ?aF ?aN (fun _ _ => trivial) ?aB ?aS ?aL ?_; (case aO => first | exact HO.out | exact Kd.N_drewN HO.out _ | exact Kd.N_below HO.out (pw_below_drewN (Below.refl _ _) _)); (case aF => exact f_old HR1.out (below_step HBA.out (by repeat (first | (with_reducible first | exact HB.out | apply below_alloc | apply pw_below_drewN | apply below_drew1) | exact HB.out)))); (case aN => exact fun k hk => ⟨trivial, fun he => by have := n_base HO.out k he.symm; have := HBA.out.size; omega⟩); (case aB => exact (by repeat (first | (with_reducible first | exact HB.out | apply below_alloc | apply pw_below_drewN | apply below_drew1) | exact HB.out))); (case aS => exact ((by repeat (first | (with_reducible first | exact HB.out | apply below_alloc | apply pw_below_drewN | apply below_drew1) | exact HB.out)) : Below w3.heap.size w3 _).size); (case aL => have := HP7.out; simp only [List.length_nil]; omega); intro v66 w66 ho hb2_ _ _; rw [List.nil_append] at ho; have n0_ := Aside0.mk ho; have n1_ := Aside0.mk hb2_; clear HO HB ho hb2_; have HO := n0_; have HB := n1_; clear n0_ n1_) | ((with_reducible refine gate_builtin (b := .append) (xs := #[.tmp 66, .tmp 69]) rfl ?_); at_builtin; refine Kd.N_append k34 (w0 := w3) w3.heap.size rfl (.tmp 66) (.tmp 69) 23 34 (.agg #[.string ⟨#[]⟩, .int .i64 0, .slice none 0 0, .slice none 0 0]) 72 rfl Tryd.underlying23 info34_ rfl (by decide) (by decide) v66 ps (newP name) [.string name, .int .i64 1, .slice none 0 0, .slice none 0 0] (fun _ => True) (fun k => False) rfl rfl ?aP ?aN (fun _ _ => trivial) ?aO ?aB ?aS ?aL ?_; (case aP => exact fun W' _ => k34_mk W' (newP name) (Nat.le_refl _) (Kd.C_nil _ _) (Nat.le_refl _) (Kd.C_nil _ _)); (case aN => exact fun k hk => hk.elim); (case aO => first | exact HO.out | exact Kd.N_drewN HO.out _ | exact Kd.N_below HO.out (pw_below_drewN (Below.refl _ _) _)); (case aB => exact (by repeat (first | (with_reducible first | exact HB.out | apply below_alloc | apply pw_below_drewN | apply below_drew1) | exact HB.out))); (case aS => exact ((by repeat (first | (with_reducible first | exact HB.out | apply below_alloc | apply pw_below_drewN | apply below_drew1) | exact HB.out)) : Below w3.heap.size w3 _).size); (case aL => have := HP7.out; omega); intro v70 w70 ho hb2_ _ _; rw [← HQS.out] at ho; obtain ⟨Ao, co, rfl, hlo, hCo⟩ := Kd.N_reads ho; have HCO := Aside0.mk hCo; have HLO := Aside0.mk hlo; have HB9 := Aside0.mk (Below.refl w70.heap.size w70); have n1_ := Aside0.mk hb2_; clear HO HB ho hb2_ hCo hlo; have HB := n1_; clear n1_) | (go_at_call 10; (with_reducible refine (plan_Order.calls k A0 c0 th Ao co qs l2 _ _ _ ?side1 HC0.out ?side2 HLO.out HOR2.out).mono ?_); (case side1 => exact Kd.C_below HR0.out (below_step HBA.out (by repeat (first | (with_reducible first | exact HB.out | apply below_alloc | apply pw_below_drewN | apply below_drew1) | exact HB.out)))); (case side2 => exact Kd.C_below HCO.out (by repeat (first | (with_reducible first | exact HB9.out | apply below_alloc | apply pw_below_drewN | apply below_drew1) | exact HB9.out))); rintro er w4 ⟨v2, rfl, ho2, hb_⟩; obtain ⟨Am, cm, rfl, hl2_, hC2_⟩ := Kd.R_reads ho2; have n0_ := Aside0.mk (below_step HBA.out (below_step (by repeat (first | (with_reducible first | exact HB.out | apply below_alloc | apply pw_below_drewN | apply below_drew1) | exact HB.out)) hb_)); have n1_ := Aside0.mk (Kd.R_below HV1.out (below_step (by repeat (first | (with_reducible first | exact HB.out | apply below_alloc | apply pw_below_drewN | apply below_drew1) | exact HB.out)) hb_)); have HV2 := Aside0.mk (Kd.R_mono (ok' := fun k => True) ho2 (fun _ _ => trivial)); clear HBA HB HV1 HB9 HCO HLO hb_ ho2 hl2_ hC2_; have HBA := n0_; have HV1 := n1_; have HB := Aside0.mk (Below.refl w4.heap.size w4); clear n0_ n1_) | (go_at_call 13; (with_reducible refine (monticuleref06_Class.calls k name _ _ HCL.out).mono ?_); rintro e w5 ⟨rfl, hd_⟩; have hb_ := Drawn0.below hd_; clear hd_; have n0_ := Aside0.mk (below_step (by repeat (first | (with_reducible first | exact HB.out | apply below_alloc | apply pw_below_drewN | apply below_drew1) | exact HB.out)) hb_); clear HB hb_; have HB := n0_; clear n0_))
                have HC1R := Aside0.mk (Kd.R_reads' (Kd.R_below HV1.out HB.out)).2.2
                have HC2R := Aside0.mk (Kd.R_reads' (Kd.R_below HV2.out HB.out)).2.2
                have HB4 := Aside0.mk (below_step HBA.out HB.out)
                clear HB HV1 HV2 HBA
                have HB := Aside0.mk (Below.refl w5.heap.size w5)
                go_loopg [15, 16] l2.length (fun kq v15 v16 w' => ∃ (x : Nat), v16 = .int .i64 (x : Int) ∧ v15 = .int .i64 (((noB (ps.length : Int) (l2.take x)).length : Nat) : Int) ∧ x ≤ l2.length ∧ Aside0 (kq + x = l2.length) ∧ Aside0 (Below w5.heap.size w5 w'))
                case atStart => exact ⟨0, rfl, rfl, Nat.zero_le _, ⟨rfl⟩, ⟨(by repeat (first | (with_reducible first | exact HB.out | apply below_alloc | apply pw_below_drewN | apply below_drew1) | exact HB.out))⟩⟩
                case round =>
                  clear HB
                  obtain ⟨x, rfl, hv15, p1, HKQ, HB⟩ := hrel
                  by_cases hlt : x < l2.length
                  · have c0_ : decide ((x : Int) < (l2.length : Int)) = true := decide_eq_true (by omega)
                    have hl12 : l2.length ≤ 1000 := HLL2.out
                    have hw1 : wrap64 ((x : Int) + 1) = ((x + 1 : Nat) : Int) := by rw [IntWalk.wrap64_in _ (by omega)]; omega
                    obtain ⟨y_, hy_⟩ : ∃ y_, y_ = (noB (ps.length : Int) (l2.take x)).length := ⟨_, rfl⟩
                    rw [← hy_] at hv15
                    subst hv15
                    obtain ⟨a_, ha_⟩ : ∃ a_, a_ = rd l2 (x : Int) := ⟨_, rfl⟩
                    have ha2 : a_ = l2[x] := by rw [ha_]; unfold rd; rw [Int.toNat_natCast, List.getD_eq_getElem?_getD, List.getElem?_eq_getElem hlt]; rfl
                    have hst := noB_step (ps.length : Int) l2 x hlt
                    rw [← ha2] at hst
                    obtain ⟨am_, e2_, qb⟩ := Kd.at_int HC2R.out (x : Int) (by omega) (by omega)
                    rw [← ha_] at qb
                    rw [Int.toNat_natCast] at qb
                    subst e2_
                    replace qb := (HB.out.cell (World.block_lt_of_cell? w5 _ qb)).trans qb
                    have z4 : (x < l2.length) = True := eq_true hlt
                    have z5 : ((x : Int) < (l2.length : Int)) = True := eq_true (by omega)
                    by_cases hae : a_ = (ps.length : Int)
                    · have z1 : (a_ == (ps.length : Int)) = true := beq_iff_eq.mpr hae
                      have z2 : decide (a_ = (ps.length : Int)) = true := decide_eq_true hae
                      rw [if_pos hae] at hst
                      have HST := Aside0.mk (show y_ = (noB (ps.length : Int) (l2.take (x + 1))).length by rw [hst, hy_])
                      have HLT := Aside0.mk hlt
                      clear hst hae ha_ ha2 hy_ hlt hl12
                      go_wp2_with (fail)
                      go_roundg (gk - 1)
                      case measure => have := HKQ.out; have := HLT.out; omega
                      case rel => exact ⟨x + 1, (by first | rfl | rw [hw1]), (by rw [← HST.out]), HLT.out, ⟨by have := HKQ.out; have := HLT.out; omega⟩, ⟨(by repeat (first | (with_reducible first | exact HB.out | apply below_alloc | apply pw_below_drewN | apply below_drew1) | exact HB.out))⟩⟩
                    · have z1 : (a_ == (ps.length : Int)) = false := beq_eq_false_iff_ne.mpr hae
                      have z2 : decide (a_ = (ps.length : Int)) = false := decide_eq_false hae
                      rw [if_neg hae] at hst
                      have HST := Aside0.mk (show y_ + 1 = (noB (ps.length : Int) (l2.take (x + 1))).length by rw [hst, hy_, List.length_append]; rfl)
                      obtain ⟨hyl, hyv⟩ := noB_at (ps.length : Int) l2 l1 HNB.out x hlt (by rw [← ha2]; exact hae)
                      have hyl2 : y_ < l1.length := by rw [hy_]; exact hyl
                      have hrd : rd l1 (y_ : Int) = a_ := by
                        unfold rd
                        rw [Int.toNat_natCast, List.getD_eq_getElem?_getD, List.getElem?_eq_getElem hyl2, ha2, ← hyv]
                        simp only [hy_, Option.getD_some]
                      obtain ⟨al_, e1_, qa⟩ := Kd.at_int HC1R.out (y_ : Int) (by omega) (by omega)
                      rw [hrd] at qa
                      rw [Int.toNat_natCast] at qa
                      subst e1_
                      replace qa := (HB.out.cell (World.block_lt_of_cell? w5 _ qa)).trans qa
                      have hw2 : wrap64 ((y_ : Int) + 1) = ((y_ + 1 : Nat) : Int) := by rw [IntWalk.wrap64_in _ (by have := HL1.out; omega)]; omega
                      have z6 : (y_ < l1.length) = True := eq_true hyl2
                      have z7 : ((y_ : Int) < (l1.length : Int)) = True := eq_true (Int.ofNat_lt.mpr hyl2)
                      have z8 : decide ((l1.length : Int) ≤ (y_ : Int)) = false := decide_eq_false (Int.not_le.mpr (Int.ofNat_lt.mpr hyl2))
                      have z9 : ((l1.length : Int) ≤ (y_ : Int)) = False := eq_false (Int.not_le.mpr (Int.ofNat_lt.mpr hyl2))
                      have HLT := Aside0.mk hlt
                      clear hst hae ha_ ha2 hy_ hlt hl12 hyl hyv hyl2 hrd
                      go_upto_region 20 with (fail)
                      refine start_ (n := 15) (S := fun w' => w'.cell? (al_.add y_) = some (.int .i64 a_) ∧ w'.cell? (am_.add x) = some (.int .i64 a_)) (ds := []) #[false, false, false, false, false, false, false, false, false, false, false, false, false, false, false] (by kernel_rfl) rfl rfl ⟨qa, qb⟩ (fun hHeld => ?_); refine with_tabW pmore.tab20 pmore.bits20 (fun HT_ HW_ => ?_)
                      refine pure_ (i := 0) (N := some 119) (v := ?_) (a' := ?_) #[true, false, false, false, false, false, false, false, false, false, false, false, false, false, false] rfl rfl (any_of HT_.out (by kernel_rfl)) (fun _ _ _ h => h) (Or.inl ⟨by rfl, ?_⟩) ?_ ?_
                      rotate_left
                      · intro w'
                        go_simp
                        with_reducible rfl
                      rotate_left
                      · simp only [Act.put, List.setIfInBounds_toArray, List.set_cons_zero, List.set_cons_succ, i64_w, i32_w]
                        rfl
                      refine pure_ (i := 1) (N := some 120) (v := ?_) (a' := ?_) #[true, true, false, false, false, false, false, false, false, false, false, false, false, false, false] rfl rfl (any_of HT_.out (by kernel_rfl)) (fun _ _ _ h => h) (Or.inl ⟨by rfl, ?_⟩) ?_ ?_
                      rotate_left
                      · intro w'
                        go_simp
                        with_reducible rfl
                      rotate_left
                      · simp only [Act.put, List.setIfInBounds_toArray, List.set_cons_zero, List.set_cons_succ, i64_w, i32_w]
                        rfl
                      refine pure_ (i := 2) (N := some 121) (v := ?_) (a' := ?_) #[true, true, true, false, false, false, false, false, false, false, false, false, false, false, false] rfl rfl (any_of HT_.out (by kernel_rfl)) (fun _ _ _ h => h) (Or.inl ⟨by rfl, ?_⟩) ?_ ?_
                      rotate_left
                      · intro w'
                        go_simp
                        with_reducible rfl
                      rotate_left
                      · simp only [Act.put, List.setIfInBounds_toArray, List.set_cons_zero, List.set_cons_succ, i64_w, i32_w]
                        rfl
                      refine pure_ (i := 3) (N := some 122) (v := ?_) (a' := ?_) #[true, true, true, true, false, false, false, false, false, false, false, false, false, false, false] rfl rfl (any_of HT_.out (by kernel_rfl)) (fun _ _ _ h => h) (Or.inl ⟨by rfl, ?_⟩) ?_ ?_
                      rotate_left
                      · intro w'
                        go_simp
                        with_reducible rfl
                      rotate_left
                      · simp only [Act.put, List.setIfInBounds_toArray, List.set_cons_zero, List.set_cons_succ, i64_w, i32_w]
                        rfl
                      refine pure_ (i := 4) (N := some 123) (v := ?_) (a' := ?_) #[true, true, true, true, true, false, false, false, false, false, false, false, false, false, false] rfl rfl (any_of HT_.out (by kernel_rfl)) (fun _ _ _ h => h) (Or.inl ⟨by rfl, ?_⟩) ?_ ?_
                      rotate_left
                      · intro w'
                        go_simp
                        with_reducible rfl
                      rotate_left
                      · simp only [Act.put, List.setIfInBounds_toArray, List.set_cons_zero, List.set_cons_succ, i64_w, i32_w]
                        rfl
                      refine pure_ (i := 5) (N := some 124) (v := ?_) (a' := ?_) #[true, true, true, true, true, true, false, false, false, false, false, false, false, false, false] rfl rfl (any_of HT_.out (by kernel_rfl)) (fun _ _ _ h => h) (Or.inl ⟨by rfl, ?_⟩) ?_ ?_
                      rotate_left
                      · intro w'
                        go_simp
                        with_reducible rfl
                      rotate_left
                      · simp only [Act.put, List.setIfInBounds_toArray, List.set_cons_zero, List.set_cons_succ, i64_w, i32_w]
                        rfl
                      refine pure_ (i := 6) (N := some 125) (v := ?_) (a' := ?_) #[true, true, true, true, true, true, true, false, false, false, false, false, false, false, false] rfl rfl (any_of HT_.out (by kernel_rfl)) (fun _ _ _ h => h) (Or.inl ⟨by rfl, ?_⟩) ?_ ?_
                      rotate_left
                      · intro w'
                        go_simp
                        with_reducible rfl
                      rotate_left
                      · simp only [Act.put, List.setIfInBounds_toArray, List.set_cons_zero, List.set_cons_succ, i64_w, i32_w]
                        rfl
                      refine pure_ (i := 7) (N := some 126) (v := ?_) (a' := ?_) #[true, true, true, true, true, true, true, true, false, false, false, false, false, false, false] rfl rfl (any_of HT_.out (by kernel_rfl)) (fun _ _ _ h => h) (Or.inl ⟨by rfl, ?_⟩) ?_ ?_
                      rotate_left
                      · intro w'
                        go_simp
                        with_reducible rfl
                      rotate_left
                      · simp only [Act.put, List.setIfInBounds_toArray, List.set_cons_zero, List.set_cons_succ, i64_w, i32_w]
                        rfl
                      refine take_ (i := 8) (N := some 127) (v := ?_) (a' := ?_) #[true, true, true, true, true, true, true, true, true, false, false, false, false, false, false] rfl rfl (take_ofW HT_.out HW_.out (by kernel_rfl)) (fun _ _ _ h => h) (Or.inl ⟨by rfl, ?_⟩) hHeld ?_ ?_
                      rotate_left
                      · rintro w' ⟨s0, s1⟩
                        go_simp
                        with_reducible rfl
                      rotate_left
                      · simp only [Act.put, List.setIfInBounds_toArray, List.set_cons_zero, List.set_cons_succ, i64_w, i32_w]
                        rfl
                      refine pure_ (i := 9) (N := some 128) (v := ?_) (a' := ?_) #[true, true, true, true, true, true, true, true, true, true, false, false, false, false, false] rfl rfl (any_of HT_.out (by kernel_rfl)) (fun _ _ _ h => h) (Or.inl ⟨by rfl, ?_⟩) ?_ ?_
                      rotate_left
                      · intro w'
                        go_simp
                        with_reducible rfl
                      rotate_left
                      · simp only [Act.put, List.setIfInBounds_toArray, List.set_cons_zero, List.set_cons_succ, i64_w, i32_w]
                        rfl
                      refine pure_ (i := 10) (N := some 129) (v := ?_) (a' := ?_) #[true, true, true, true, true, true, true, true, true, true, true, false, false, false, false] rfl rfl (any_of HT_.out (by kernel_rfl)) (fun _ _ _ h => h) (Or.inl ⟨by rfl, ?_⟩) ?_ ?_
                      rotate_left
                      · intro w'
                        go_simp
                        with_reducible rfl
                      rotate_left
                      · simp only [Act.put, List.setIfInBounds_toArray, List.set_cons_zero, List.set_cons_succ, i64_w, i32_w]
                        rfl
                      refine pure_ (i := 11) (N := some 130) (v := ?_) (a' := ?_) #[true, true, true, true, true, true, true, true, true, true, true, true, false, false, false] rfl rfl (any_of HT_.out (by kernel_rfl)) (fun _ _ _ h => h) (Or.inl ⟨by rfl, ?_⟩) ?_ ?_
                      rotate_left
                      · intro w'
                        go_simp
                        with_reducible rfl
                      rotate_left
                      · simp only [Act.put, List.setIfInBounds_toArray, List.set_cons_zero, List.set_cons_succ, i64_w, i32_w]
                        rfl
                      refine take_ (i := 12) (N := some 131) (v := ?_) (a' := ?_) #[true, true, true, true, true, true, true, true, true, true, true, true, true, false, false] rfl rfl (take_ofW HT_.out HW_.out (by kernel_rfl)) (fun _ _ _ h => h) (Or.inl ⟨by rfl, ?_⟩) hHeld ?_ ?_
                      rotate_left
                      · rintro w' ⟨s0, s1⟩
                        go_simp
                        with_reducible rfl
                      rotate_left
                      · simp only [Act.put, List.setIfInBounds_toArray, List.set_cons_zero, List.set_cons_succ, i64_w, i32_w]
                        rfl
                      refine pure_ (i := 13) (N := some 132) (v := ?_) (a' := ?_) #[true, true, true, true, true, true, true, true, true, true, true, true, true, true, false] rfl rfl (any_of HT_.out (by kernel_rfl)) (fun _ _ _ h => h) (Or.inl ⟨by rfl, ?_⟩) ?_ ?_
                      rotate_left
                      · intro w'
                        go_simp
                        with_reducible rfl
                      rotate_left
                      · simp only [Act.put, List.setIfInBounds_toArray, List.set_cons_zero, List.set_cons_succ, i64_w, i32_w]
                        rfl
                      refine pure_ (i := 14) (N := some 133) (v := ?_) (a' := ?_) #[true, true, true, true, true, true, true, true, true, true, true, true, true, true, true] rfl rfl (any_of HT_.out (by kernel_rfl)) (fun _ _ _ h => h) (Or.inl ⟨by rfl, ?_⟩) ?_ ?_
                      rotate_left
                      · intro w'
                        go_simp
                        with_reducible rfl
                      rotate_left
                      · simp only [Act.put, List.setIfInBounds_toArray, List.set_cons_zero, List.set_cons_succ, i64_w, i32_w]
                        rfl
                      refine done_ (done_of HT_.out (by kernel_rfl)) ?_
                      go_wp2_with (fail)
                      go_roundg (gk - 1)
                      case measure => have := HKQ.out; have := HLT.out; omega
                      case rel => exact ⟨x + 1, (by first | rfl | rw [hw1]), (by rw [← HST.out, hw2]), HLT.out, ⟨by have := HKQ.out; have := HLT.out; omega⟩, ⟨(by repeat (first | (with_reducible first | exact HB.out | apply below_alloc | apply pw_below_drewN | apply below_drew1) | exact HB.out))⟩⟩
                  · have c0_ : decide ((x : Int) < (l2.length : Int)) = false := decide_eq_false (by omega)
                    obtain rfl : x = l2.length := by omega
                    rw [List.take_of_length_le (Nat.le_refl _), HNB.out] at hv15
                    subst hv15
                    have hw2 : wrap64 ((l1.length : Int) + 1) = (l2.length : Int) := by rw [IntWalk.wrap64_in _ (by have := HL1.out; omega)]; have := HLEN.out; omega
                    go_wp2_with (fail)
                    go_ret
                    exact ⟨rfl, below_step HB4.out (by repeat (first | (with_reducible first | exact HB.out | apply below_alloc | apply pw_below_drewN | apply below_drew1) | exact HB.out))⟩
              · have z1 : (e2 == 0) = false := beq_eq_false_iff_ne.mpr he1
                have z2 : decide (e2 = 0) = false := decide_eq_false he1
                have z5 : (e2 != 0) = true := bne_iff_ne.mpr he1
                have z6 : (e2 = 0) = False := eq_false he1
                clear hq he1
                go_wp2_with (first | (go_at_call 10; (with_reducible refine (plan_Order.calls k A0 c0 th A1 c1 ps l1 _ _ _ ?side1 HC0.out ?side2 HC1.out HOR.out).mono ?_); (case side1 => exact Kd.C_below HR0.out (below_step HBA.out (by repeat (first | (with_reducible first | exact HB.out | apply below_alloc | apply pw_below_drewN | apply below_drew1) | exact HB.out)))); (case side2 => exact Kd.C_below HR1.out (below_step HBA.out (by repeat (first | (with_reducible first | exact HB.out | apply below_alloc | apply pw_below_drewN | apply below_drew1) | exact HB.out)))); rintro er w3 ⟨v1, rfl, ho1, hb_⟩; obtain ⟨Al, cl, rfl, hl1_, hC1_⟩ := Kd.R_reads ho1; have n0_ := Aside0.mk (below_step HBA.out (below_step (by repeat (first | (with_reducible first | exact HB.out | apply below_alloc | apply pw_below_drewN | apply below_drew1) | exact HB.out)) hb_)); have HV1 := Aside0.mk (Kd.R_mono (ok' := fun k => True) ho1 (fun _ _ => trivial)); clear HBA HB hb_ ho1 hl1_ hC1_; have HBA := n0_; have HB := Aside0.mk (Below.refl w3.heap.size w3); clear n0_) | ((with_reducible refine gate_dst (N := 64) rfl ?_); refine Kd.N_lit k34 (w0 := w3) w3.heap.size 34 ?hg (N' := 64) ?hd (xs := ([] : List S34)) (inner := []) (ok := fun _ => True) (okp := fun _ => True) ?hr ?hp (fun _ hk => hk) trivial (by repeat (first | (with_reducible first | exact HB.out | apply below_alloc | apply pw_below_drewN | apply below_drew1) | exact HB.out)) ((by repeat (first | (with_reducible first | exact HB.out | apply below_alloc | apply pw_below_drewN | apply below_drew1) | exact HB.out)) : Below w3.heap.size w3 _).size (by simp) ?_; (case hd => rfl); (case hg => rfl); (case hr => first | (go_simp; done) | (go_simp; rfl)); (case hp => exact Reps.none _ _); intro v64 w64 ho hb2_ _ _; have HO := Aside0.mk ho; have n1_ := Aside0.mk hb2_; clear HB ho hb2_; have HB := n1_; clear n1_) | ((with_reducible refine gate_builtin (b := .append) (xs := #[.tmp 64, .tmp 65]) rfl ?_); at_builtin; refine Kd.N_append_rows k34 (w0 := w3) w3.heap.size rfl (.tmp 64) (.tmp 65) 23 34 (.agg #[.string ⟨#[]⟩, .int .i64 0, .slice none 0 0, .slice none 0 0]) 72 rfl Tryd.underlying23 info34_ rfl (by decide) (by decide) v64 ([] : List S34) ps A1 ps.length c1 (fun _ => True) (fun k => k < w.heap.size) rfl rfl ?aO ?aF ?aN (fun _ _ => trivial) ?aB ?aS ?aL ?_; (case aO => first | exact HO.out | exact Kd.N_drewN HO.out _ | exact Kd.N_below HO.out (pw_below_drewN (Below.refl _ _) _)); (case aF => exact f_old HR1.out (below_step HBA.out (by repeat (first | (with_reducible first | exact HB.out | apply below_alloc | apply pw_below_drewN | apply below_drew1) | exact HB.out)))); (case aN => exact fun k hk => ⟨trivial, fun he => by have := n_base HO.out k he.symm; have := HBA.out.size; omega⟩); (case aB => exact (by repeat (first | (with_reducible first | exact HB.out | apply below_alloc | apply pw_below_drewN | apply below_drew1) | exact HB.out))); (case aS => exact ((by repeat (first | (with_reducible first | exact HB.out | apply below_alloc | apply pw_below_drewN | apply below_drew1) | exact HB.out)) : Below w3.heap.size w3 _).size); (case aL => have := HP7.out; simp only [List.length_nil]; omega); intro v66 w66 ho hb2_ _ _; rw [List.nil_append] at ho; have n0_ := Aside0.mk ho; have n1_ := Aside0.mk hb2_; clear HO HB ho hb2_; have HO := n0_; have HB := n1_; clear n0_ n1_) | ((with_reducible refine gate_builtin (b := .append) (xs := #[.tmp 66, .tmp 69]) rfl ?_); at_builtin; refine Kd.N_append k34 (w0 := w3) w3.heap.size rfl (.tmp 66) (.tmp 69) 23 34 (.agg #[.string ⟨#[]⟩, .int .i64 0, .slice none 0 0, .slice none 0 0]) 72 rfl Tryd.underlying23 info34_ rfl (by decide) (by decide) v66 ps (newP name) [.string name, .int .i64 1, .slice none 0 0, .slice none 0 0] (fun _ => True) (fun k => False) rfl rfl ?aP ?aN (fun _ _ => trivial) ?aO ?aB ?aS ?aL ?_; (case aP => exact fun W' _ => k34_mk W' (newP name) (Nat.le_refl _) (Kd.C_nil _ _) (Nat.le_refl _) (Kd.C_nil _ _)); (case aN => exact fun k hk => hk.elim); (case aO => first | exact HO.out | exact Kd.N_drewN HO.out _ | exact Kd.N_below HO.out (pw_below_drewN (Below.refl _ _) _)); (case aB => exact (by repeat (first | (with_reducible first | exact HB.out | apply below_alloc | apply pw_below_drewN | apply below_drew1) | exact HB.out))); (case aS => exact ((by repeat (first | (with_reducible first | exact HB.out | apply below_alloc | apply pw_below_drewN | apply below_drew1) | exact HB.out)) : Below w3.heap.size w3 _).size); (case aL => have := HP7.out; omega); intro v70 w70 ho hb2_ _ _; rw [← HQS.out] at ho; obtain ⟨Ao, co, rfl, hlo, hCo⟩ := Kd.N_reads ho; have HCO := Aside0.mk hCo; have HLO := Aside0.mk hlo; have HB9 := Aside0.mk (Below.refl w70.heap.size w70); have n1_ := Aside0.mk hb2_; clear HO HB ho hb2_ hCo hlo; have HB := n1_; clear n1_) | (go_at_call 10; (with_reducible refine (plan_Order.calls k A0 c0 th Ao co qs l2 _ _ _ ?side1 HC0.out ?side2 HLO.out HOR2.out).mono ?_); (case side1 => exact Kd.C_below HR0.out (below_step HBA.out (by repeat (first | (with_reducible first | exact HB.out | apply below_alloc | apply pw_below_drewN | apply below_drew1) | exact HB.out)))); (case side2 => exact Kd.C_below HCO.out (by repeat (first | (with_reducible first | exact HB9.out | apply below_alloc | apply pw_below_drewN | apply below_drew1) | exact HB9.out))); rintro er w4 ⟨v2, rfl, ho2, hb_⟩; obtain ⟨Am, cm, rfl, hl2_, hC2_⟩ := Kd.R_reads ho2; have n0_ := Aside0.mk (below_step HBA.out (below_step (by repeat (first | (with_reducible first | exact HB.out | apply below_alloc | apply pw_below_drewN | apply below_drew1) | exact HB.out)) hb_)); have n1_ := Aside0.mk (Kd.R_below HV1.out (below_step (by repeat (first | (with_reducible first | exact HB.out | apply below_alloc | apply pw_below_drewN | apply below_drew1) | exact HB.out)) hb_)); have HV2 := Aside0.mk (Kd.R_mono (ok' := fun k => True) ho2 (fun _ _ => trivial)); clear HBA HB HV1 HB9 HCO HLO hb_ ho2 hl2_ hC2_; have HBA := n0_; have HV1 := n1_; have HB := Aside0.mk (Below.refl w4.heap.size w4); clear n0_ n1_) | (go_at_call 13; (with_reducible refine (monticuleref06_Class.calls k name _ _ HCL.out).mono ?_); rintro e w5 ⟨rfl, hd_⟩; have hb_ := Drawn0.below hd_; clear hd_; have n0_ := Aside0.mk (below_step (by repeat (first | (with_reducible first | exact HB.out | apply below_alloc | apply pw_below_drewN | apply below_drew1) | exact HB.out)) hb_); clear HB hb_; have HB := n0_; clear n0_))
                go_ret
                exact ⟨rfl, below_step HBA.out (by repeat (first | (with_reducible first | exact HB.out | apply below_alloc | apply pw_below_drewN | apply below_drew1) | exact HB.out))⟩
end Go.Proofs.YtgfdcakeplamnaaDoor.Hd
