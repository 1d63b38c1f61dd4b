/- SnapChanges, walked. -/
import Derived.Test.YtmlebgikdegjjaaGreatDoorUh
import Derived.Test.YtmlebgikdegjjaaGreatDoorCh
import Derived.Test.YtmlebgikdegjjaaGreatDoorPAllx3
import Derived.Test.YtmlebgikdegjjaaGreatDoorPAllx3
import Derived.Test.YtmlebgikdegjjaaGreatDoorPAllx6
import Derived.Test.YtmlebgikdegjjaaGreatDoorPAllx7
import Derived.Test.YtmlebgikdegjjaaGreatDoorPAllx7
import Derived.Test.YtmlebgikdegjjaaGreatDoorPAllx8
namespace Go.Proofs.YtmlebgikdegjjaaGreatDoor.Hd
open Go.Maps Go.RowKit Go.Proofs.YtmlebgikdegjjaaGreatDoorW.PrintWords Go.Proofs.YtmlebgikdegjjaaGreatDoorW.PrintLast Go.Proofs.YtmlebgikdegjjaaGreatDoorW.PrintMore Go.Proofs.YtmlebgikdegjjaaGreatDoor.PAll
attribute [local go_sem] max2_int min2_int max_two min_two max_three min_three max_four min_four
set_option linter.unusedVariables false
set_option linter.unusedSimpArgs false
theorem VB {w : World} {base base' : Nat} {ok : Nat → Prop} {v : Value} {l : List S34} (h : Kd.V k34 34 w base ok v l) : Kd.V k34 34 w base' ok v l := h
theorem VBS {w : World} {base base' : Nat} {ok : Nat → Prop} {v : Value} {l : List ByteArray} (h : Kd.V Kd.string 9 w base ok v l) : Kd.V Kd.string 9 w base' ok v l := h
set_option maxHeartbeats 16000000 in
set_option maxRecDepth 100000 in
theorem changes_few (k : Nat) (key : S34 → ByteArray) (A0 : Option Addr) (c0 : Nat) (l : List S34) (A1 : Option Addr) (c1 : Nat) (chs : List SC) (w : World) (hr0 : Kd.C k34 w A0 l.length l) (hc0 : l.length ≤ c0) (hr1 : Kd.C kC w A1 chs.length chs) (hc1 : chs.length ≤ c1) (h1 : monticuleref07_Few.f k l 10 = some false) :
    Calls Tryz.prog 3 #[.slice A0 l.length c0, .slice A1 chs.length c1] w fun e w' => e = .returned (.bool true) ∧ Below w.heap.size w w' := by
  have HC0 := Aside0.mk hc0
  have HR0 := Aside0.mk hr0
  have HF1 := Aside0.mk h1
  have HB := Aside0.mk (Below.refl w.heap.size w)
  clear hc0 hr0 h1 hr1 hc1
  go_enter Tryz.func3, Tryz.ntmps3
  go_wp2_with (first | (go_at_call 15; (with_reducible refine (awake_calls _).mono ?_); rintro e wa ⟨rfl, hb_⟩; have n0_ := Aside0.mk (below_step (by repeat (first | (with_reducible first | exact HB.out | apply below_alloc | apply pw_below_drewN | apply below_drew1) | exact HB.out)) hb_); clear HB hb_; have HB := n0_; clear n0_) | (go_at_call 16; (with_reducible refine (monticuleref07_Few.calls k A0 c0 l 10 _ _ ?s1 HC0.out HF1.out).mono ?_); (case s1 => exact Kd.C_below HR0.out (by repeat (first | (with_reducible first | exact HB.out | apply below_alloc | apply pw_below_drewN | apply below_drew1) | exact HB.out))); rintro e wb ⟨rfl, hb_⟩; have n0_ := Aside0.mk (below_step (by repeat (first | (with_reducible first | exact HB.out | apply below_alloc | apply pw_below_drewN | apply below_drew1) | exact HB.out)) hb_); clear HB hb_; have HB := n0_; clear n0_))
  go_ret
  exact ⟨rfl, (by repeat (first | (with_reducible first | exact HB.out | apply below_alloc | apply pw_below_drewN | apply below_drew1) | exact HB.out))⟩
set_option maxHeartbeats 16000000 in
set_option maxRecDepth 100000 in
theorem changes_many (k : Nat) (key : S34 → ByteArray) (A0 : Option Addr) (c0 : Nat) (l : List S34) (A1 : Option Addr) (c1 : Nat) (chs : List SC) (w : World) (hr0 : Kd.C k34 w A0 l.length l) (hc0 : l.length ≤ c0) (hr1 : Kd.C kC w A1 chs.length chs) (hc1 : chs.length ≤ c1) (h1 : monticuleref07_Few.f k l 10 = some true) (hn : ¬ chs.length ≤ 10) :
    Calls Tryz.prog 3 #[.slice A0 l.length c0, .slice A1 chs.length c1] w fun e w' => e = .returned (.bool true) ∧ Below w.heap.size w w' := by
  have HC0 := Aside0.mk hc0
  have HR0 := Aside0.mk hr0
  have HF1 := Aside0.mk h1
  have HB := Aside0.mk (Below.refl w.heap.size w)
  have ca_ : decide ((10 : Int) < (chs.length : Int)) = true := decide_eq_true (by omega)
  have cb_ : ((10 : Int) < (chs.length : Int)) = True := eq_true (by omega)
  clear hc0 hr0 h1 hr1 hc1 hn
  go_enter Tryz.func3, Tryz.ntmps3
  go_wp2_with (first | (go_at_call 15; (with_reducible refine (awake_calls _).mono ?_); rintro e wa ⟨rfl, hb_⟩; have n0_ := Aside0.mk (below_step (by repeat (first | (with_reducible first | exact HB.out | apply below_alloc | apply pw_below_drewN | apply below_drew1) | exact HB.out)) hb_); clear HB hb_; have HB := n0_; clear n0_) | (go_at_call 16; (with_reducible refine (monticuleref07_Few.calls k A0 c0 l 10 _ _ ?s1 HC0.out HF1.out).mono ?_); (case s1 => exact Kd.C_below HR0.out (by repeat (first | (with_reducible first | exact HB.out | apply below_alloc | apply pw_below_drewN | apply below_drew1) | exact HB.out))); rintro e wb ⟨rfl, hb_⟩; have n0_ := Aside0.mk (below_step (by repeat (first | (with_reducible first | exact HB.out | apply below_alloc | apply pw_below_drewN | apply below_drew1) | exact HB.out)) hb_); clear HB hb_; have HB := n0_; clear n0_))
  go_ret
  exact ⟨rfl, (by repeat (first | (with_reducible first | exact HB.out | apply below_alloc | apply pw_below_drewN | apply below_drew1) | exact HB.out))⟩
set_option maxHeartbeats 16000000 in
set_option maxRecDepth 100000 in
theorem changes_go (sm : S34 → S34 → Bool) (rb : S34 → Bool) (sb : S34 → Bool) (L : List S34) (k : Nat) (key : S34 → ByteArray) (A0 : Option Addr) (c0 : Nat) (l : List S34) (A1 : Option Addr) (c1 : Nat) (chs : List SC) (w : World) (hr0 : Kd.C k34 w A0 l.length l) (hc0 : l.length ≤ c0) (hr1 : Kd.C kC w A1 chs.length chs) (hc1 : chs.length ≤ c1) (h1 : monticuleref07_Few.f k l 10 = some true) (hn : chs.length ≤ 10) (hln : l.length ≤ 10)
    (hlL : ∀ d ∈ l, d ∈ L) (hcL : ∀ c ∈ chs, sb c.d = true → c.d ∈ L) (hL : ∀ d ∈ L, def_Key.f k d.f0 d.f1 d.f2 d.f3 d.f4 d.f5 = some (key d) ∧ (key d).size ≤ 1000000 ∧ d.f3.length ≤ 1000000) (hR : ∀ d ∈ L, monticuleref07_Right.f k d.f0 d.f1 d.f2 d.f3 d.f4 d.f5 = some (rb d) ∧ (rb d = true → 0 < (key d).size) ∧ (rb d = false → key d = ⟨#[]⟩))
    (hsb : ∀ c ∈ chs, monticuleref07_Small.f k c.d.f0 c.d.f1 c.d.f2 c.d.f3 c.d.f4 c.d.f5 = some (sb c.d)) (hsm : ∀ x ∈ L, ∀ y ∈ L, monticuleref07_Same.f k x.f0 x.f1 x.f2 x.f3 x.f4 x.f5 y.f0 y.f1 y.f2 y.f3 y.f4 y.f5 = some (sm x y)) (hself : ∀ x ∈ L, sm x x = true) (hrn : monticuleref08_New.f k l = some (newL key l []))
    (hput : ∀ out : List S34, out.length ≤ 30 → (∀ x ∈ out, x ∈ L) → ∀ d ∈ L, ∃ k', monticuleref08_Put.f k' out d.f0 d.f1 d.f2 d.f3 d.f4 d.f5 = some (putL key d out false)) (hdrop : ∀ (out : List S34) (s : ByteArray), out.length ≤ 30 → (∀ x ∈ out, x ∈ L) → ∃ k', monticuleref08_Drop.f k' out s = some (dropL key s out)) :
    Calls Tryz.prog 3 #[.slice A0 l.length c0, .slice A1 chs.length c1] w fun e w' => e = .returned (.bool true) ∧ Below w.heap.size w w' := by
  have hu34 := Tryz.underlying34
  have hu36 := Tryz.underlying36
  have HC0 := Aside0.mk hc0
  have HR0 := Aside0.mk hr0
  have HR1 := Aside0.mk hr1
  have HF1 := Aside0.mk h1
  have HCN := Aside0.mk hn
  have HLN := Aside0.mk hln
  have HLN4 := Aside0.mk (show l.length ≤ 400 by omega)
  have HLL := Aside0.mk hlL
  have HCL := Aside0.mk hcL
  have HL := Aside0.mk hL
  have HR := Aside0.mk hR
  have HSB_ := Aside0.mk hsb
  have HSAME := Aside0.mk hsm
  have HSELF := Aside0.mk hself
  have HPUT := Aside0.mk hput
  have HDROP := Aside0.mk hdrop
  have HKEY := Aside0.mk (fun d hd => hL d (hlL d hd))
  have hnk := new_mapK (key := key) l (out := []) List.Pairwise.nil
  have hnl := newL_len (key := key) l []
  have hnm := newL_mem (key := key) l []
  obtain ⟨M0, en, hng⟩ : ∃ M0 en, newGo key l (.map []) = (M0, en) := ⟨_, _, rfl⟩
  rw [show mapK key [] = (.map [] : DataW S34) from rfl, hng] at hnk
  obtain ⟨out0, rn, hon⟩ : ∃ out0 rn, newL key l [] = (out0, rn) := ⟨_, _, rfl⟩
  rw [hon] at hnk hnl hnm hrn
  have HNG := Aside0.mk hng
  have HNK := Aside0.mk hnk
  have HNLEN := Aside0.mk hnl
  have HNMEM := Aside0.mk hnm
  have HRN := Aside0.mk hrn
  have HB := Aside0.mk (Below.refl w.heap.size w)
  have ca_ : decide ((10 : Int) < (chs.length : Int)) = false := decide_eq_false (by omega)
  have cb_ : ((10 : Int) < (chs.length : Int)) = False := eq_false (by omega)
  clear hc0 hr0 h1 hr1 hc1 hn hln hlL hcL hL hR hsb hsm hself hput hdrop hnk hnl hnm hng hon hrn
  go_enter Tryz.func3, Tryz.ntmps3
  go_upto_if 38 with (first | (go_at_call 15; (with_reducible refine (awake_calls _).mono ?_); rintro e wa ⟨rfl, hb_⟩; have n0_ := Aside0.mk (below_step (by repeat (first | (with_reducible first | exact HB.out | apply below_alloc | apply pw_below_drewN | apply below_drew1) | exact HB.out)) hb_); clear HB hb_; have HB := n0_; clear n0_) | (go_at_call 16; (with_reducible refine (monticuleref07_Few.calls k A0 c0 l 10 _ _ ?s1 HC0.out HF1.out).mono ?_); (case s1 => exact Kd.C_below HR0.out (by repeat (first | (with_reducible first | exact HB.out | apply below_alloc | apply pw_below_drewN | apply below_drew1) | exact HB.out))); rintro e wb ⟨rfl, hb_⟩; have n0_ := Aside0.mk (below_step (by repeat (first | (with_reducible first | exact HB.out | apply below_alloc | apply pw_below_drewN | apply below_drew1) | exact HB.out)) hb_); clear HB hb_; have HB := n0_; clear n0_) | (go_at_call 17; (with_reducible refine (new_gen key k A0 c0 l _ M0 en ?s1 HC0.out HLN4.out HKEY.out HNG.out).mono ?_); (case s1 => exact Kd.C_below HR0.out (by repeat (first | (with_reducible first | exact HB.out | apply below_alloc | apply pw_below_drewN | apply below_drew1) | exact HB.out))); rintro e w3 ⟨p0, rfl, hg_, hbad_, hb_⟩; have HSG := Aside0.mk hg_; have HSB := Aside0.mk hbad_; have n0_ := Aside0.mk (below_step (by repeat (first | (with_reducible first | exact HB.out | apply below_alloc | apply pw_below_drewN | apply below_drew1) | exact HB.out)) hb_); clear HB hb_; have HB := n0_; clear n0_; clear hg_ hbad_) | (go_at_call 18; (with_reducible refine (monticuleref08_New.calls k (fun _ => True) A0 c0 l out0 rn _ ?s1 HRN.out).mono ?_); (case s1 => exact V_of_C (Kd.C_below HR0.out (by repeat (first | (with_reducible first | exact HB.out | apply below_alloc | apply pw_below_drewN | apply below_drew1) | exact HB.out))) HC0.out); rintro e w4 ⟨vw, rfl, hN_, hb_⟩; obtain ⟨Aw0, cw0, rfl, hV_⟩ := VT (base' := 0) hN_; have HV := Aside0.mk hV_; have n1_ := Aside0.mk (fun h_ : en = 0 => (HSG.out h_).below hb_); clear HSG; have HSG := n1_; clear n1_; have n0_ := Aside0.mk (below_step (by repeat (first | (with_reducible first | exact HB.out | apply below_alloc | apply pw_below_drewN | apply below_drew1) | exact HB.out)) hb_); clear HB hb_; have HB := n0_; clear n0_; clear hN_ hV_))
  clear ca_ cb_
  go_cut [5, 7] from 38 (fun v5 v7 w' => ∃ (p : Option Addr) (out : List S34) (Aw : Option Addr) (cw : Nat), v5 = .pointer p ∧ v7 = .slice Aw out.length cw ∧ Aside0 (Sn w' (.pointer p) (mapK key out)) ∧ Aside0 (Kd.V k34 34 w' 0 (fun _ => True) (.slice Aw out.length cw) out) ∧ Aside0 (Ris key out) ∧ Aside0 (out.length ≤ 10) ∧ Aside0 (∀ y ∈ out, y ∈ L) ∧ Aside0 (Below w.heap.size w w'))
  case first =>
    by_cases he : en = 0
    · have HE := Aside0.mk he
      have z1 : (en != 0) = false := by rw [he]; rfl
      clear he
      go_wp2_with (fail)
      go_meet
      have hk := HNK.out
      have h2 : rn = 0 := hk.1.symm.trans HE.out
      obtain ⟨h3, h4⟩ := hk.2.1 h2
      have h5 : M0 = mapK key out0 := h3
      have h6 := HSG.out HE.out
      rw [h5] at h6
      exact ⟨p0, out0, Aw0, cw0, rfl, rfl, ⟨Or.inr h6⟩, ⟨HV.out⟩, ⟨h4⟩, ⟨Nat.le_trans HNLEN.out (by rw [List.length_nil]; have := HLN.out; omega)⟩, ⟨fun y hy => by rcases HNMEM.out y hy with h | h; exact HLL.out y h; cases h⟩, ⟨(by repeat (first | (with_reducible first | exact HB.out | apply below_alloc | apply pw_below_drewN | apply below_drew1) | exact HB.out))⟩⟩
    · have z1 : (en != 0) = true := bne_iff_ne.mpr he
      obtain rfl := HSB.out he
      clear he
      go_wp2_with (fail)
      go_meet
      exact ⟨none, [], none, 0, rfl, rfl, ⟨Or.inl ⟨rfl, rfl⟩⟩, ⟨Kd.V_nil _ _ _ _ _⟩, ⟨List.Pairwise.nil⟩, ⟨Nat.zero_le _⟩, ⟨fun y hy => by cases hy⟩, ⟨(by repeat (first | (with_reducible first | exact HB.out | apply below_alloc | apply pw_below_drewN | apply below_drew1) | exact HB.out))⟩⟩
  case rest =>
    clear HB HSG HSB HV HNG HNK HNLEN HNMEM HRN
    obtain ⟨p, out, Aw, cw, rfl, rfl, HS, HV, HRIS, HOL, HM, HB⟩ := hcut
    go_wp2_with (fail)
    go_loopg [5, 7, 9] chs.length (fun kq v5 v7 v9 w' => ∃ (x : Nat) (p : Option Addr) (out : List S34) (Aw : Option Addr) (cw : Nat), v5 = .pointer p ∧ v7 = .slice Aw out.length cw ∧ v9 = .int .i64 (x : Int) ∧ x ≤ chs.length ∧ Aside0 (kq + x = chs.length) ∧ Aside0 (Sn w' (.pointer p) (mapK key out)) ∧ Aside0 (Kd.V k34 34 w' 0 (fun _ => True) (.slice Aw out.length cw) out) ∧ Aside0 (Ris key out) ∧ Aside0 (out.length ≤ 10 + x) ∧ Aside0 (∀ y ∈ out, y ∈ L) ∧ Aside0 (Below w.heap.size w w'))
    case atStart => exact ⟨0, p, out, Aw, cw, rfl, rfl, rfl, Nat.zero_le _, ⟨rfl⟩, HS, HV, HRIS, ⟨HOL.out⟩, HM, HB⟩
    case round =>
      clear HS HV HRIS HOL HM HB
      obtain ⟨x, p, out, Aw, cw, rfl, rfl, rfl, p1, HKQ, HS, HV, HRIS, HXL, HM, HB⟩ := hrel
      by_cases hlt : x < chs.length
      case neg =>
        have c0_ : decide ((x : Int) < (chs.length : Int)) = false := decide_eq_false (by omega)
        have c1_ : ((x : Int) < (chs.length : Int)) = False := eq_false (by omega)
        have c2_ : (x < chs.length) = False := eq_false hlt
        go_wp2_with (fail)
        go_ret
        exact ⟨rfl, HB.out⟩
      case pos =>
        have c0_ : decide ((x : Int) < (chs.length : Int)) = true := decide_eq_true (by omega)
        have HX := Aside0.mk (show x < chs.length ∧ chs.length ≤ 10 from ⟨hlt, HCN.out⟩)
        have hw1 : wrap64 ((x : Int) + 1) = ((x + 1 : Nat) : Int) := by rw [IntWalk.wrap64_in _ (by have := HCN.out; omega)]; omega
        obtain ⟨ad, A2, c2, e_, q0, q1, q2, q3, q4, q5, q6, q7, hl2, hC2⟩ := at_C HR1.out x hlt rfl
        have hmem := List.getElem_mem hlt
        obtain ⟨⟨dr, d, ks⟩, hcx⟩ : ∃ c, c = chs[x] := ⟨_, rfl⟩
        rw [← hcx] at q0 q1 q2 q3 q4 q5 q6 q7 hl2 hC2 hmem
        dsimp only at q0 q1 q2 q3 q4 q5 q6 q7 hl2 hC2
        subst e_
        have HL2 := Aside0.mk hl2
        have HC2 := Aside0.mk (Kd.C_below hC2 HB.out)
        replace q0 := (HB.out.cell (World.block_lt_of_cell? w _ q0)).trans q0
        replace q1 := (HB.out.cell (World.block_lt_of_cell? w _ q1)).trans q1
        replace q2 := (HB.out.cell (World.block_lt_of_cell? w _ q2)).trans q2
        replace q3 := (HB.out.cell (World.block_lt_of_cell? w _ q3)).trans q3
        replace q4 := (HB.out.cell (World.block_lt_of_cell? w _ q4)).trans q4
        replace q5 := (HB.out.cell (World.block_lt_of_cell? w _ q5)).trans q5
        replace q6 := (HB.out.cell (World.block_lt_of_cell? w _ q6)).trans q6
        replace q7 := (HB.out.cell (World.block_lt_of_cell? w _ q7)).trans q7
        have p1_ : ((x : Int) < (chs.length : Int)) = True := eq_true (by omega)
        have p2_ : (x < chs.length) = True := eq_true hlt
        have HBR := HB
        have hsb_ := HSB_.out _ hmem
        have hcl_ := HCL.out _ hmem
        dsimp only at hsb_ hcl_
        have HOL := Aside0.mk (show out.length ≤ 1000 by have := HXL.out; have := HX.out; omega)
        have HSZ := Aside0.mk (show Maps.size (mapK key out) ≤ 1000 by rw [size_mapK]; exact HOL.out)
        have HSZ5 := Aside0.mk (show Maps.size (mapK key out) < 500 by rw [size_mapK]; have := HXL.out; have := HX.out; omega)
        have HOV := Aside0.mk (fun y hy => (HL.out y (HM.out y hy)).2.2)
        have HOS := Aside0.mk (fun x hx y hy => HSAME.out x (HM.out x hx) y (HM.out y hy))
        have HOE := Aside0.mk (fun x hx => HSELF.out x (HM.out x hx))
        clear HB hl2 hC2 hcx hlt hmem
        obtain ⟨bs, hbs⟩ : ∃ bs, bs = sb d := ⟨_, rfl⟩
        rw [← hbs] at hsb_ hcl_
        have HSM := Aside0.mk hsb_
        have HCL1 := Aside0.mk hcl_
        clear hsb_ hcl_ hbs
        cases bs with
        | false => as_aux_lemma =>
          cases dr with
          | false =>
            go_upto_region 11 with (fail)
            have bk_ := blk_new wr (Obj.cells #[.bool false, .int .i64 d.f0, .string d.f1, .string d.f2, .slice A2 d.f3.length c2, .string d.f4, .string d.f5, .string ks] 36)
            have hb_ := below_alloc (Below.refl wr.heap.size wr) (Obj.cells #[.bool false, .int .i64 d.f0, .string d.f1, .string d.f2, .slice A2 d.f3.length c2, .string d.f4, .string d.f5, .string ks] 36)
            generalize wr.alloc (Obj.cells #[.bool false, .int .i64 d.f0, .string d.f1, .string d.f2, .slice A2 d.f3.length c2, .string d.f4, .string d.f5, .string ks] 36) = W5 at bk_ hb_ ⊢
            obtain ⟨gq, hgq⟩ : ∃ gq, gq = wr.heap.size := ⟨_, rfl⟩
            rw [← hgq] at bk_ ⊢
            clear hgq q0 q1 q2 q3 q4 q5 q6 q7
            have HBW := Aside0.mk (below_step HBR.out hb_)
            have n1_ := Aside0.mk (HS.out.below hb_)
            have n2_ := Aside0.mk (Kd.V_below HV.out hb_)
            have n3_ := Aside0.mk (Kd.C_below HC2.out hb_)
            clear HS HV HC2 HBR
            have HS := n1_
            have HV := n2_
            have HC2 := n3_
            have HVS := Aside0.mk (VS_of_C (base := 0) HC2.out HL2.out)
            clear n1_ n2_ n3_
            have HB := Aside0.mk (Below.refl W5.heap.size W5)
            have BKQ := Aside0.mk bk_
            clear hb_ bk_
            have hq_0 : W5.cell? ⟨gq, 0, none⟩ = some (.bool false) := (blk_cell (blk_below BKQ.out HB.out) 0).trans rfl
            have hq_1 : W5.cell? ⟨gq, 1, none⟩ = some (.int .i64 d.f0) := (blk_cell (blk_below BKQ.out HB.out) 1).trans rfl
            have hq_2 : W5.cell? ⟨gq, 2, none⟩ = some (.string d.f1) := (blk_cell (blk_below BKQ.out HB.out) 2).trans rfl
            have hq_3 : W5.cell? ⟨gq, 3, none⟩ = some (.string d.f2) := (blk_cell (blk_below BKQ.out HB.out) 3).trans rfl
            have hq_4 : W5.cell? ⟨gq, 4, none⟩ = some (.slice A2 d.f3.length c2) := (blk_cell (blk_below BKQ.out HB.out) 4).trans rfl
            have hq_5 : W5.cell? ⟨gq, 5, none⟩ = some (.string d.f4) := (blk_cell (blk_below BKQ.out HB.out) 5).trans rfl
            have hq_6 : W5.cell? ⟨gq, 6, none⟩ = some (.string d.f5) := (blk_cell (blk_below BKQ.out HB.out) 6).trans rfl
            have hq_7 : W5.cell? ⟨gq, 7, none⟩ = some (.string ks) := (blk_cell (blk_below BKQ.out HB.out) 7).trans rfl
            go_wp2_with (first | (go_at_call 19; (with_reducible refine (monticuleref07_Small.calls k d.f0 d.f1 d.f2 A2 c2 d.f3 d.f4 d.f5 _ _ ?s1 HL2.out HSM.out).mono ?_); (case s1 => exact Kd.C_below HC2.out (by repeat (first | (with_reducible first | exact HB.out | apply below_alloc | apply pw_below_drewN | apply below_drew1) | exact HB.out))); rintro e ws ⟨rfl, hb_⟩; have n0_ := Aside0.mk (below_step (by repeat (first | (with_reducible first | exact HB.out | apply below_alloc | apply pw_below_drewN | apply below_drew1) | exact HB.out)) hb_); clear hq_0 hq_1 hq_2 hq_3 hq_4 hq_5 hq_6 hq_7; clear HB hb_; have HB := n0_; clear n0_; have hq_0 : ws.cell? ⟨gq, 0, none⟩ = some (.bool false) := (blk_cell (blk_below BKQ.out HB.out) 0).trans rfl; have hq_1 : ws.cell? ⟨gq, 1, none⟩ = some (.int .i64 d.f0) := (blk_cell (blk_below BKQ.out HB.out) 1).trans rfl; have hq_2 : ws.cell? ⟨gq, 2, none⟩ = some (.string d.f1) := (blk_cell (blk_below BKQ.out HB.out) 2).trans rfl; have hq_3 : ws.cell? ⟨gq, 3, none⟩ = some (.string d.f2) := (blk_cell (blk_below BKQ.out HB.out) 3).trans rfl; have hq_4 : ws.cell? ⟨gq, 4, none⟩ = some (.slice A2 d.f3.length c2) := (blk_cell (blk_below BKQ.out HB.out) 4).trans rfl; have hq_5 : ws.cell? ⟨gq, 5, none⟩ = some (.string d.f4) := (blk_cell (blk_below BKQ.out HB.out) 5).trans rfl; have hq_6 : ws.cell? ⟨gq, 6, none⟩ = some (.string d.f5) := (blk_cell (blk_below BKQ.out HB.out) 6).trans rfl; have hq_7 : ws.cell? ⟨gq, 7, none⟩ = some (.string ks) := (blk_cell (blk_below BKQ.out HB.out) 7).trans rfl))
            go_ret
            exact ⟨rfl, below_step HBW.out (by repeat (first | (with_reducible first | exact HB.out | apply below_alloc | apply pw_below_drewN | apply below_drew1) | exact HB.out))⟩
          | true =>
            go_upto_region 11 with (fail)
            have bk_ := blk_new wr (Obj.cells #[.bool true, .int .i64 d.f0, .string d.f1, .string d.f2, .slice A2 d.f3.length c2, .string d.f4, .string d.f5, .string ks] 36)
            have hb_ := below_alloc (Below.refl wr.heap.size wr) (Obj.cells #[.bool true, .int .i64 d.f0, .string d.f1, .string d.f2, .slice A2 d.f3.length c2, .string d.f4, .string d.f5, .string ks] 36)
            generalize wr.alloc (Obj.cells #[.bool true, .int .i64 d.f0, .string d.f1, .string d.f2, .slice A2 d.f3.length c2, .string d.f4, .string d.f5, .string ks] 36) = W5 at bk_ hb_ ⊢
            obtain ⟨gq, hgq⟩ : ∃ gq, gq = wr.heap.size := ⟨_, rfl⟩
            rw [← hgq] at bk_ ⊢
            clear hgq q0 q1 q2 q3 q4 q5 q6 q7
            have HBW := Aside0.mk (below_step HBR.out hb_)
            have n1_ := Aside0.mk (HS.out.below hb_)
            have n2_ := Aside0.mk (Kd.V_below HV.out hb_)
            have n3_ := Aside0.mk (Kd.C_below HC2.out hb_)
            clear HS HV HC2 HBR
            have HS := n1_
            have HV := n2_
            have HC2 := n3_
            have HVS := Aside0.mk (VS_of_C (base := 0) HC2.out HL2.out)
            clear n1_ n2_ n3_
            have HB := Aside0.mk (Below.refl W5.heap.size W5)
            have BKQ := Aside0.mk bk_
            clear hb_ bk_
            have hq_0 : W5.cell? ⟨gq, 0, none⟩ = some (.bool true) := (blk_cell (blk_below BKQ.out HB.out) 0).trans rfl
            have hq_1 : W5.cell? ⟨gq, 1, none⟩ = some (.int .i64 d.f0) := (blk_cell (blk_below BKQ.out HB.out) 1).trans rfl
            have hq_2 : W5.cell? ⟨gq, 2, none⟩ = some (.string d.f1) := (blk_cell (blk_below BKQ.out HB.out) 2).trans rfl
            have hq_3 : W5.cell? ⟨gq, 3, none⟩ = some (.string d.f2) := (blk_cell (blk_below BKQ.out HB.out) 3).trans rfl
            have hq_4 : W5.cell? ⟨gq, 4, none⟩ = some (.slice A2 d.f3.length c2) := (blk_cell (blk_below BKQ.out HB.out) 4).trans rfl
            have hq_5 : W5.cell? ⟨gq, 5, none⟩ = some (.string d.f4) := (blk_cell (blk_below BKQ.out HB.out) 5).trans rfl
            have hq_6 : W5.cell? ⟨gq, 6, none⟩ = some (.string d.f5) := (blk_cell (blk_below BKQ.out HB.out) 6).trans rfl
            have hq_7 : W5.cell? ⟨gq, 7, none⟩ = some (.string ks) := (blk_cell (blk_below BKQ.out HB.out) 7).trans rfl
            go_wp2_with (first | (go_at_call 19; (with_reducible refine (monticuleref07_Small.calls k d.f0 d.f1 d.f2 A2 c2 d.f3 d.f4 d.f5 _ _ ?s1 HL2.out HSM.out).mono ?_); (case s1 => exact Kd.C_below HC2.out (by repeat (first | (with_reducible first | exact HB.out | apply below_alloc | apply pw_below_drewN | apply below_drew1) | exact HB.out))); rintro e ws ⟨rfl, hb_⟩; have n0_ := Aside0.mk (below_step (by repeat (first | (with_reducible first | exact HB.out | apply below_alloc | apply pw_below_drewN | apply below_drew1) | exact HB.out)) hb_); clear hq_0 hq_1 hq_2 hq_3 hq_4 hq_5 hq_6 hq_7; clear HB hb_; have HB := n0_; clear n0_; have hq_0 : ws.cell? ⟨gq, 0, none⟩ = some (.bool true) := (blk_cell (blk_below BKQ.out HB.out) 0).trans rfl; have hq_1 : ws.cell? ⟨gq, 1, none⟩ = some (.int .i64 d.f0) := (blk_cell (blk_below BKQ.out HB.out) 1).trans rfl; have hq_2 : ws.cell? ⟨gq, 2, none⟩ = some (.string d.f1) := (blk_cell (blk_below BKQ.out HB.out) 2).trans rfl; have hq_3 : ws.cell? ⟨gq, 3, none⟩ = some (.string d.f2) := (blk_cell (blk_below BKQ.out HB.out) 3).trans rfl; have hq_4 : ws.cell? ⟨gq, 4, none⟩ = some (.slice A2 d.f3.length c2) := (blk_cell (blk_below BKQ.out HB.out) 4).trans rfl; have hq_5 : ws.cell? ⟨gq, 5, none⟩ = some (.string d.f4) := (blk_cell (blk_below BKQ.out HB.out) 5).trans rfl; have hq_6 : ws.cell? ⟨gq, 6, none⟩ = some (.string d.f5) := (blk_cell (blk_below BKQ.out HB.out) 6).trans rfl; have hq_7 : ws.cell? ⟨gq, 7, none⟩ = some (.string ks) := (blk_cell (blk_below BKQ.out HB.out) 7).trans rfl))
            go_ret
            exact ⟨rfl, below_step HBW.out (by repeat (first | (with_reducible first | exact HB.out | apply below_alloc | apply pw_below_drewN | apply below_drew1) | exact HB.out))⟩
        | true =>
          have HDL := Aside0.mk (HCL1.out rfl)
          clear HCL1
          by_cases hks : ks.size ≤ 700
          case neg => as_aux_lemma =>
            have cc_ : decide ((700 : Int) < (ks.size : Int)) = true := decide_eq_true (by omega)
            have cd_ : ((700 : Int) < (ks.size : Int)) = True := eq_true (by omega)
            clear hks
            cases dr with
            | false =>
              go_upto_region 11 with (fail)
              have bk_ := blk_new wr (Obj.cells #[.bool false, .int .i64 d.f0, .string d.f1, .string d.f2, .slice A2 d.f3.length c2, .string d.f4, .string d.f5, .string ks] 36)
              have hb_ := below_alloc (Below.refl wr.heap.size wr) (Obj.cells #[.bool false, .int .i64 d.f0, .string d.f1, .string d.f2, .slice A2 d.f3.length c2, .string d.f4, .string d.f5, .string ks] 36)
              generalize wr.alloc (Obj.cells #[.bool false, .int .i64 d.f0, .string d.f1, .string d.f2, .slice A2 d.f3.length c2, .string d.f4, .string d.f5, .string ks] 36) = W5 at bk_ hb_ ⊢
              obtain ⟨gq, hgq⟩ : ∃ gq, gq = wr.heap.size := ⟨_, rfl⟩
              rw [← hgq] at bk_ ⊢
              clear hgq q0 q1 q2 q3 q4 q5 q6 q7
              have HBW := Aside0.mk (below_step HBR.out hb_)
              have n1_ := Aside0.mk (HS.out.below hb_)
              have n2_ := Aside0.mk (Kd.V_below HV.out hb_)
              have n3_ := Aside0.mk (Kd.C_below HC2.out hb_)
              clear HS HV HC2 HBR
              have HS := n1_
              have HV := n2_
              have HC2 := n3_
              have HVS := Aside0.mk (VS_of_C (base := 0) HC2.out HL2.out)
              clear n1_ n2_ n3_
              have HB := Aside0.mk (Below.refl W5.heap.size W5)
              have BKQ := Aside0.mk bk_
              clear hb_ bk_
              have hq_0 : W5.cell? ⟨gq, 0, none⟩ = some (.bool false) := (blk_cell (blk_below BKQ.out HB.out) 0).trans rfl
              have hq_1 : W5.cell? ⟨gq, 1, none⟩ = some (.int .i64 d.f0) := (blk_cell (blk_below BKQ.out HB.out) 1).trans rfl
              have hq_2 : W5.cell? ⟨gq, 2, none⟩ = some (.string d.f1) := (blk_cell (blk_below BKQ.out HB.out) 2).trans rfl
              have hq_3 : W5.cell? ⟨gq, 3, none⟩ = some (.string d.f2) := (blk_cell (blk_below BKQ.out HB.out) 3).trans rfl
              have hq_4 : W5.cell? ⟨gq, 4, none⟩ = some (.slice A2 d.f3.length c2) := (blk_cell (blk_below BKQ.out HB.out) 4).trans rfl
              have hq_5 : W5.cell? ⟨gq, 5, none⟩ = some (.string d.f4) := (blk_cell (blk_below BKQ.out HB.out) 5).trans rfl
              have hq_6 : W5.cell? ⟨gq, 6, none⟩ = some (.string d.f5) := (blk_cell (blk_below BKQ.out HB.out) 6).trans rfl
              have hq_7 : W5.cell? ⟨gq, 7, none⟩ = some (.string ks) := (blk_cell (blk_below BKQ.out HB.out) 7).trans rfl
              go_wp2_with (first | (go_at_call 19; (with_reducible refine (monticuleref07_Small.calls k d.f0 d.f1 d.f2 A2 c2 d.f3 d.f4 d.f5 _ _ ?s1 HL2.out HSM.out).mono ?_); (case s1 => exact Kd.C_below HC2.out (by repeat (first | (with_reducible first | exact HB.out | apply below_alloc | apply pw_below_drewN | apply below_drew1) | exact HB.out))); rintro e ws ⟨rfl, hb_⟩; have n0_ := Aside0.mk (below_step (by repeat (first | (with_reducible first | exact HB.out | apply below_alloc | apply pw_below_drewN | apply below_drew1) | exact HB.out)) hb_); clear hq_0 hq_1 hq_2 hq_3 hq_4 hq_5 hq_6 hq_7; clear HB hb_; have HB := n0_; clear n0_; have hq_0 : ws.cell? ⟨gq, 0, none⟩ = some (.bool false) := (blk_cell (blk_below BKQ.out HB.out) 0).trans rfl; have hq_1 : ws.cell? ⟨gq, 1, none⟩ = some (.int .i64 d.f0) := (blk_cell (blk_below BKQ.out HB.out) 1).trans rfl; have hq_2 : ws.cell? ⟨gq, 2, none⟩ = some (.string d.f1) := (blk_cell (blk_below BKQ.out HB.out) 2).trans rfl; have hq_3 : ws.cell? ⟨gq, 3, none⟩ = some (.string d.f2) := (blk_cell (blk_below BKQ.out HB.out) 3).trans rfl; have hq_4 : ws.cell? ⟨gq, 4, none⟩ = some (.slice A2 d.f3.length c2) := (blk_cell (blk_below BKQ.out HB.out) 4).trans rfl; have hq_5 : ws.cell? ⟨gq, 5, none⟩ = some (.string d.f4) := (blk_cell (blk_below BKQ.out HB.out) 5).trans rfl; have hq_6 : ws.cell? ⟨gq, 6, none⟩ = some (.string d.f5) := (blk_cell (blk_below BKQ.out HB.out) 6).trans rfl; have hq_7 : ws.cell? ⟨gq, 7, none⟩ = some (.string ks) := (blk_cell (blk_below BKQ.out HB.out) 7).trans rfl))
              go_ret
              exact ⟨rfl, below_step HBW.out (by repeat (first | (with_reducible first | exact HB.out | apply below_alloc | apply pw_below_drewN | apply below_drew1) | exact HB.out))⟩
            | true =>
              go_upto_region 11 with (fail)
              have bk_ := blk_new wr (Obj.cells #[.bool true, .int .i64 d.f0, .string d.f1, .string d.f2, .slice A2 d.f3.length c2, .string d.f4, .string d.f5, .string ks] 36)
              have hb_ := below_alloc (Below.refl wr.heap.size wr) (Obj.cells #[.bool true, .int .i64 d.f0, .string d.f1, .string d.f2, .slice A2 d.f3.length c2, .string d.f4, .string d.f5, .string ks] 36)
              generalize wr.alloc (Obj.cells #[.bool true, .int .i64 d.f0, .string d.f1, .string d.f2, .slice A2 d.f3.length c2, .string d.f4, .string d.f5, .string ks] 36) = W5 at bk_ hb_ ⊢
              obtain ⟨gq, hgq⟩ : ∃ gq, gq = wr.heap.size := ⟨_, rfl⟩
              rw [← hgq] at bk_ ⊢
              clear hgq q0 q1 q2 q3 q4 q5 q6 q7
              have HBW := Aside0.mk (below_step HBR.out hb_)
              have n1_ := Aside0.mk (HS.out.below hb_)
              have n2_ := Aside0.mk (Kd.V_below HV.out hb_)
              have n3_ := Aside0.mk (Kd.C_below HC2.out hb_)
              clear HS HV HC2 HBR
              have HS := n1_
              have HV := n2_
              have HC2 := n3_
              have HVS := Aside0.mk (VS_of_C (base := 0) HC2.out HL2.out)
              clear n1_ n2_ n3_
              have HB := Aside0.mk (Below.refl W5.heap.size W5)
              have BKQ := Aside0.mk bk_
              clear hb_ bk_
              have hq_0 : W5.cell? ⟨gq, 0, none⟩ = some (.bool true) := (blk_cell (blk_below BKQ.out HB.out) 0).trans rfl
              have hq_1 : W5.cell? ⟨gq, 1, none⟩ = some (.int .i64 d.f0) := (blk_cell (blk_below BKQ.out HB.out) 1).trans rfl
              have hq_2 : W5.cell? ⟨gq, 2, none⟩ = some (.string d.f1) := (blk_cell (blk_below BKQ.out HB.out) 2).trans rfl
              have hq_3 : W5.cell? ⟨gq, 3, none⟩ = some (.string d.f2) := (blk_cell (blk_below BKQ.out HB.out) 3).trans rfl
              have hq_4 : W5.cell? ⟨gq, 4, none⟩ = some (.slice A2 d.f3.length c2) := (blk_cell (blk_below BKQ.out HB.out) 4).trans rfl
              have hq_5 : W5.cell? ⟨gq, 5, none⟩ = some (.string d.f4) := (blk_cell (blk_below BKQ.out HB.out) 5).trans rfl
              have hq_6 : W5.cell? ⟨gq, 6, none⟩ = some (.string d.f5) := (blk_cell (blk_below BKQ.out HB.out) 6).trans rfl
              have hq_7 : W5.cell? ⟨gq, 7, none⟩ = some (.string ks) := (blk_cell (blk_below BKQ.out HB.out) 7).trans rfl
              go_wp2_with (first | (go_at_call 19; (with_reducible refine (monticuleref07_Small.calls k d.f0 d.f1 d.f2 A2 c2 d.f3 d.f4 d.f5 _ _ ?s1 HL2.out HSM.out).mono ?_); (case s1 => exact Kd.C_below HC2.out (by repeat (first | (with_reducible first | exact HB.out | apply below_alloc | apply pw_below_drewN | apply below_drew1) | exact HB.out))); rintro e ws ⟨rfl, hb_⟩; have n0_ := Aside0.mk (below_step (by repeat (first | (with_reducible first | exact HB.out | apply below_alloc | apply pw_below_drewN | apply below_drew1) | exact HB.out)) hb_); clear hq_0 hq_1 hq_2 hq_3 hq_4 hq_5 hq_6 hq_7; clear HB hb_; have HB := n0_; clear n0_; have hq_0 : ws.cell? ⟨gq, 0, none⟩ = some (.bool true) := (blk_cell (blk_below BKQ.out HB.out) 0).trans rfl; have hq_1 : ws.cell? ⟨gq, 1, none⟩ = some (.int .i64 d.f0) := (blk_cell (blk_below BKQ.out HB.out) 1).trans rfl; have hq_2 : ws.cell? ⟨gq, 2, none⟩ = some (.string d.f1) := (blk_cell (blk_below BKQ.out HB.out) 2).trans rfl; have hq_3 : ws.cell? ⟨gq, 3, none⟩ = some (.string d.f2) := (blk_cell (blk_below BKQ.out HB.out) 3).trans rfl; have hq_4 : ws.cell? ⟨gq, 4, none⟩ = some (.slice A2 d.f3.length c2) := (blk_cell (blk_below BKQ.out HB.out) 4).trans rfl; have hq_5 : ws.cell? ⟨gq, 5, none⟩ = some (.string d.f4) := (blk_cell (blk_below BKQ.out HB.out) 5).trans rfl; have hq_6 : ws.cell? ⟨gq, 6, none⟩ = some (.string d.f5) := (blk_cell (blk_below BKQ.out HB.out) 6).trans rfl; have hq_7 : ws.cell? ⟨gq, 7, none⟩ = some (.string ks) := (blk_cell (blk_below BKQ.out HB.out) 7).trans rfl))
              go_ret
              exact ⟨rfl, below_step HBW.out (by repeat (first | (with_reducible first | exact HB.out | apply below_alloc | apply pw_below_drewN | apply below_drew1) | exact HB.out))⟩
          case pos =>
            have cc_ : decide ((700 : Int) < (ks.size : Int)) = false := decide_eq_false (by omega)
            have cd_ : ((700 : Int) < (ks.size : Int)) = False := eq_false (by omega)
            have HKZ := Aside0.mk hks
            clear hks
            cases dr with
            | true => as_aux_lemma =>
              obtain ⟨k1, hk1⟩ := HDROP.out out ks (by have := HXL.out; have := HX.out; omega) HM.out
              have HDR := Aside0.mk hk1
              obtain ⟨ys, hys⟩ : ∃ ys, ys = [ks] := ⟨_, rfl⟩
              have HYS := Aside0.mk hys
              have HYK := Aside0.mk (show ∀ s ∈ ys, s.size ≤ 1000000 from fun s hs => by rw [hys] at hs; rw [List.mem_singleton.1 hs]; exact Nat.le_trans HKZ.out (by decide))
              have HYL := Aside0.mk (show ys.length ≤ 1000000 by rw [hys]; show 1 ≤ 1000000; decide)
              have HDM := Aside0.mk (show dropM (mapK key out) ys = mapK key (dropL key ks out) by rw [hys]; exact del_mapK ks out)
              clear hk1 hys
              have HNL := Aside0.mk (show (dropL key ks out).length ≤ 1000 from Nat.le_trans (Nat.le_trans (dropL_len ks out) HXL.out) (by have := HX.out; have := HXL.out; omega))
              have HNM := Aside0.mk (show ∀ y ∈ dropL key ks out, y ∈ L from fun y hy => HM.out y ((List.mem_filter.1 hy).1))
              have HNV := Aside0.mk (fun y hy => (HL.out y (HNM.out y hy)).2.2)
              have HNS := Aside0.mk (fun x hx y hy => HSAME.out x (HNM.out x hx) y (HNM.out y hy))
              have HNE := Aside0.mk (fun x hx => HSELF.out x (HNM.out x hx))
              go_upto_region 11 with (fail)
              have bk_ := blk_new wr (Obj.cells #[.bool true, .int .i64 d.f0, .string d.f1, .string d.f2, .slice A2 d.f3.length c2, .string d.f4, .string d.f5, .string ks] 36)
              have hb_ := below_alloc (Below.refl wr.heap.size wr) (Obj.cells #[.bool true, .int .i64 d.f0, .string d.f1, .string d.f2, .slice A2 d.f3.length c2, .string d.f4, .string d.f5, .string ks] 36)
              generalize wr.alloc (Obj.cells #[.bool true, .int .i64 d.f0, .string d.f1, .string d.f2, .slice A2 d.f3.length c2, .string d.f4, .string d.f5, .string ks] 36) = W5 at bk_ hb_ ⊢
              obtain ⟨gq, hgq⟩ : ∃ gq, gq = wr.heap.size := ⟨_, rfl⟩
              rw [← hgq] at bk_ ⊢
              clear hgq q0 q1 q2 q3 q4 q5 q6 q7
              have HBW := Aside0.mk (below_step HBR.out hb_)
              have n1_ := Aside0.mk (HS.out.below hb_)
              have n2_ := Aside0.mk (Kd.V_below HV.out hb_)
              have n3_ := Aside0.mk (Kd.C_below HC2.out hb_)
              clear HS HV HC2 HBR
              have HS := n1_
              have HV := n2_
              have HC2 := n3_
              have HVS := Aside0.mk (VS_of_C (base := 0) HC2.out HL2.out)
              clear n1_ n2_ n3_
              have HB := Aside0.mk (Below.refl W5.heap.size W5)
              have BKQ := Aside0.mk bk_
              clear hb_ bk_
              have hq_0 : W5.cell? ⟨gq, 0, none⟩ = some (.bool true) := (blk_cell (blk_below BKQ.out HB.out) 0).trans rfl
              have hq_1 : W5.cell? ⟨gq, 1, none⟩ = some (.int .i64 d.f0) := (blk_cell (blk_below BKQ.out HB.out) 1).trans rfl
              have hq_2 : W5.cell? ⟨gq, 2, none⟩ = some (.string d.f1) := (blk_cell (blk_below BKQ.out HB.out) 2).trans rfl
              have hq_3 : W5.cell? ⟨gq, 3, none⟩ = some (.string d.f2) := (blk_cell (blk_below BKQ.out HB.out) 3).trans rfl
              have hq_4 : W5.cell? ⟨gq, 4, none⟩ = some (.slice A2 d.f3.length c2) := (blk_cell (blk_below BKQ.out HB.out) 4).trans rfl
              have hq_5 : W5.cell? ⟨gq, 5, none⟩ = some (.string d.f4) := (blk_cell (blk_below BKQ.out HB.out) 5).trans rfl
              have hq_6 : W5.cell? ⟨gq, 6, none⟩ = some (.string d.f5) := (blk_cell (blk_below BKQ.out HB.out) 6).trans rfl
              have hq_7 : W5.cell? ⟨gq, 7, none⟩ = some (.string ks) := (blk_cell (blk_below BKQ.out HB.out) 7).trans rfl
              go_wp2_with (first | (go_at_call 19; (with_reducible refine (monticuleref07_Small.calls k d.f0 d.f1 d.f2 A2 c2 d.f3 d.f4 d.f5 _ _ ?s1 HL2.out HSM.out).mono ?_); (case s1 => exact Kd.C_below HC2.out (by repeat (first | (with_reducible first | exact HB.out | apply below_alloc | apply pw_below_drewN | apply below_drew1) | exact HB.out))); rintro e ws ⟨rfl, hb_⟩; have n0_ := Aside0.mk (below_step (by repeat (first | (with_reducible first | exact HB.out | apply below_alloc | apply pw_below_drewN | apply below_drew1) | exact HB.out)) hb_); clear hq_0 hq_1 hq_2 hq_3 hq_4 hq_5 hq_6 hq_7; clear HB hb_; have HB := n0_; clear n0_; have hq_0 : ws.cell? ⟨gq, 0, none⟩ = some (.bool true) := (blk_cell (blk_below BKQ.out HB.out) 0).trans rfl; have hq_1 : ws.cell? ⟨gq, 1, none⟩ = some (.int .i64 d.f0) := (blk_cell (blk_below BKQ.out HB.out) 1).trans rfl; have hq_2 : ws.cell? ⟨gq, 2, none⟩ = some (.string d.f1) := (blk_cell (blk_below BKQ.out HB.out) 2).trans rfl; have hq_3 : ws.cell? ⟨gq, 3, none⟩ = some (.string d.f2) := (blk_cell (blk_below BKQ.out HB.out) 3).trans rfl; have hq_4 : ws.cell? ⟨gq, 4, none⟩ = some (.slice A2 d.f3.length c2) := (blk_cell (blk_below BKQ.out HB.out) 4).trans rfl; have hq_5 : ws.cell? ⟨gq, 5, none⟩ = some (.string d.f4) := (blk_cell (blk_below BKQ.out HB.out) 5).trans rfl; have hq_6 : ws.cell? ⟨gq, 6, none⟩ = some (.string d.f5) := (blk_cell (blk_below BKQ.out HB.out) 6).trans rfl; have hq_7 : ws.cell? ⟨gq, 7, none⟩ = some (.string ks) := (blk_cell (blk_below BKQ.out HB.out) 7).trans rfl) | ((with_reducible refine gate_dst (N := 64) rfl ?_); refine Kd.R_lit Kd.string _ 9 ?hg (N := 64) ?hd (xs := ([ks] : List ByteArray)) (inner := [.string ks]) (ok := fun _ => True) (okp := fun _ => True) ?hr ?hp (fun _ hk => hk) trivial (Below.refl _ _) (Nat.le_refl _) (by simp) ?_; (case hd => rfl); (case hg => rfl); (case hr => first | (go_simp; done) | (go_simp; rfl)); (case hp => exact Reps.one (show Kd.M Kd.string _ _ _ ks [.string ks] from rfl) (Reps.none _ _)); intro v12 w12 ho hb_ _ _; rw [← HYS.out] at ho; obtain ⟨Ak, ck, rfl, hlk, hCk⟩ := Kd.R_reads ho; have HLK := Aside0.mk hlk; have HCK := Aside0.mk hCk; have n0_ := Aside0.mk (below_step (by repeat (first | (with_reducible first | exact HB.out | apply below_alloc | apply pw_below_drewN | apply below_drew1) | exact HB.out)) hb_); clear hq_0 hq_1 hq_2 hq_3 hq_4 hq_5 hq_6 hq_7; clear HB hb_; have HB := n0_; clear n0_; have hq_0 : w12.cell? ⟨gq, 0, none⟩ = some (.bool true) := (blk_cell (blk_below BKQ.out HB.out) 0).trans rfl; have hq_1 : w12.cell? ⟨gq, 1, none⟩ = some (.int .i64 d.f0) := (blk_cell (blk_below BKQ.out HB.out) 1).trans rfl; have hq_2 : w12.cell? ⟨gq, 2, none⟩ = some (.string d.f1) := (blk_cell (blk_below BKQ.out HB.out) 2).trans rfl; have hq_3 : w12.cell? ⟨gq, 3, none⟩ = some (.string d.f2) := (blk_cell (blk_below BKQ.out HB.out) 3).trans rfl; have hq_4 : w12.cell? ⟨gq, 4, none⟩ = some (.slice A2 d.f3.length c2) := (blk_cell (blk_below BKQ.out HB.out) 4).trans rfl; have hq_5 : w12.cell? ⟨gq, 5, none⟩ = some (.string d.f4) := (blk_cell (blk_below BKQ.out HB.out) 5).trans rfl; have hq_6 : w12.cell? ⟨gq, 6, none⟩ = some (.string d.f5) := (blk_cell (blk_below BKQ.out HB.out) 6).trans rfl; have hq_7 : w12.cell? ⟨gq, 7, none⟩ = some (.string ks) := (blk_cell (blk_below BKQ.out HB.out) 7).trans rfl; clear ho hlk hCk) | (go_at_call 20; (with_reducible refine (drop_calls _ _ _ Ak ck ys (HS.out.below (by repeat (first | (with_reducible first | exact HB.out | apply below_alloc | apply pw_below_drewN | apply below_drew1) | exact HB.out))) HSZ.out HCK.out HLK.out HYK.out HYL.out).mono ?_); rintro e w5 ⟨vv, rfl, hs_, hb_⟩; rw [HDM.out] at hs_; obtain ⟨gn, bn, rfl, hsn_⟩ := hs_; have HSN := Aside0.mk (show Sn w5 (.pointer (some ⟨gn, 0, none⟩)) (mapK key (dropL key ks out)) from Or.inr ⟨gn, bn, rfl, hsn_.1, hsn_.2.1⟩); have n0_ := Aside0.mk (below_step (by repeat (first | (with_reducible first | exact HB.out | apply below_alloc | apply pw_below_drewN | apply below_drew1) | exact HB.out)) hb_); clear hq_0 hq_1 hq_2 hq_3 hq_4 hq_5 hq_6 hq_7; clear HB hb_; have HB := n0_; clear n0_; have hq_0 : w5.cell? ⟨gq, 0, none⟩ = some (.bool true) := (blk_cell (blk_below BKQ.out HB.out) 0).trans rfl; have hq_1 : w5.cell? ⟨gq, 1, none⟩ = some (.int .i64 d.f0) := (blk_cell (blk_below BKQ.out HB.out) 1).trans rfl; have hq_2 : w5.cell? ⟨gq, 2, none⟩ = some (.string d.f1) := (blk_cell (blk_below BKQ.out HB.out) 2).trans rfl; have hq_3 : w5.cell? ⟨gq, 3, none⟩ = some (.string d.f2) := (blk_cell (blk_below BKQ.out HB.out) 3).trans rfl; have hq_4 : w5.cell? ⟨gq, 4, none⟩ = some (.slice A2 d.f3.length c2) := (blk_cell (blk_below BKQ.out HB.out) 4).trans rfl; have hq_5 : w5.cell? ⟨gq, 5, none⟩ = some (.string d.f4) := (blk_cell (blk_below BKQ.out HB.out) 5).trans rfl; have hq_6 : w5.cell? ⟨gq, 6, none⟩ = some (.string d.f5) := (blk_cell (blk_below BKQ.out HB.out) 6).trans rfl; have hq_7 : w5.cell? ⟨gq, 7, none⟩ = some (.string ks) := (blk_cell (blk_below BKQ.out HB.out) 7).trans rfl; clear hsn_ HCK) | (go_at_call 21; (with_reducible refine (is_same key sm k _ p out Aw cw (HS.out.below (by repeat (first | (with_reducible first | exact HB.out | apply below_alloc | apply pw_below_drewN | apply below_drew1) | exact HB.out))) (Kd.V_below HV.out (by repeat (first | (with_reducible first | exact HB.out | apply below_alloc | apply pw_below_drewN | apply below_drew1) | exact HB.out))) HOL.out HOV.out HOS.out HOE.out).mono ?_); rintro e wi ⟨rfl, hb_⟩; have n0_ := Aside0.mk (below_step (by repeat (first | (with_reducible first | exact HB.out | apply below_alloc | apply pw_below_drewN | apply below_drew1) | exact HB.out)) hb_); have n1_ := Aside0.mk (HSN.out.below hb_); clear HSN; have HSN := n1_; clear n1_; clear hq_0 hq_1 hq_2 hq_3 hq_4 hq_5 hq_6 hq_7; clear HB hb_; have HB := n0_; clear n0_; have hq_0 : wi.cell? ⟨gq, 0, none⟩ = some (.bool true) := (blk_cell (blk_below BKQ.out HB.out) 0).trans rfl; have hq_1 : wi.cell? ⟨gq, 1, none⟩ = some (.int .i64 d.f0) := (blk_cell (blk_below BKQ.out HB.out) 1).trans rfl; have hq_2 : wi.cell? ⟨gq, 2, none⟩ = some (.string d.f1) := (blk_cell (blk_below BKQ.out HB.out) 2).trans rfl; have hq_3 : wi.cell? ⟨gq, 3, none⟩ = some (.string d.f2) := (blk_cell (blk_below BKQ.out HB.out) 3).trans rfl; have hq_4 : wi.cell? ⟨gq, 4, none⟩ = some (.slice A2 d.f3.length c2) := (blk_cell (blk_below BKQ.out HB.out) 4).trans rfl; have hq_5 : wi.cell? ⟨gq, 5, none⟩ = some (.string d.f4) := (blk_cell (blk_below BKQ.out HB.out) 5).trans rfl; have hq_6 : wi.cell? ⟨gq, 6, none⟩ = some (.string d.f5) := (blk_cell (blk_below BKQ.out HB.out) 6).trans rfl; have hq_7 : wi.cell? ⟨gq, 7, none⟩ = some (.string ks) := (blk_cell (blk_below BKQ.out HB.out) 7).trans rfl) | (go_at_call 22; (with_reducible refine (monticuleref08_Drop.calls k1 (fun _ => True) Aw cw out ks (dropL key ks out) _ ?s1 HDR.out).mono ?_); (case s1 => exact VB (Kd.V_below HV.out (by repeat (first | (with_reducible first | exact HB.out | apply below_alloc | apply pw_below_drewN | apply below_drew1) | exact HB.out)))); rintro e w6 ⟨vw, rfl, hN_, hb_⟩; obtain ⟨An, cn, rfl, hV_⟩ := VT (base' := 0) hN_; have HWN := Aside0.mk hV_; have n0_ := Aside0.mk (below_step (by repeat (first | (with_reducible first | exact HB.out | apply below_alloc | apply pw_below_drewN | apply below_drew1) | exact HB.out)) hb_); have n1_ := Aside0.mk (HSN.out.below hb_); clear HSN; have HSN := n1_; clear n1_; clear hq_0 hq_1 hq_2 hq_3 hq_4 hq_5 hq_6 hq_7; clear HB hb_; have HB := n0_; clear n0_; have hq_0 : w6.cell? ⟨gq, 0, none⟩ = some (.bool true) := (blk_cell (blk_below BKQ.out HB.out) 0).trans rfl; have hq_1 : w6.cell? ⟨gq, 1, none⟩ = some (.int .i64 d.f0) := (blk_cell (blk_below BKQ.out HB.out) 1).trans rfl; have hq_2 : w6.cell? ⟨gq, 2, none⟩ = some (.string d.f1) := (blk_cell (blk_below BKQ.out HB.out) 2).trans rfl; have hq_3 : w6.cell? ⟨gq, 3, none⟩ = some (.string d.f2) := (blk_cell (blk_below BKQ.out HB.out) 3).trans rfl; have hq_4 : w6.cell? ⟨gq, 4, none⟩ = some (.slice A2 d.f3.length c2) := (blk_cell (blk_below BKQ.out HB.out) 4).trans rfl; have hq_5 : w6.cell? ⟨gq, 5, none⟩ = some (.string d.f4) := (blk_cell (blk_below BKQ.out HB.out) 5).trans rfl; have hq_6 : w6.cell? ⟨gq, 6, none⟩ = some (.string d.f5) := (blk_cell (blk_below BKQ.out HB.out) 6).trans rfl; have hq_7 : w6.cell? ⟨gq, 7, none⟩ = some (.string ks) := (blk_cell (blk_below BKQ.out HB.out) 7).trans rfl; clear hN_ hV_) | (go_at_call 21; (with_reducible refine (is_same key sm k _ (some ⟨gn, 0, none⟩) (dropL key ks out) An cn HSN.out HWN.out HNL.out HNV.out HNS.out HNE.out).mono ?_); rintro e wj ⟨rfl, hb_⟩; have n0_ := Aside0.mk (below_step (by repeat (first | (with_reducible first | exact HB.out | apply below_alloc | apply pw_below_drewN | apply below_drew1) | exact HB.out)) hb_); have n1_ := Aside0.mk (HSN.out.below hb_); clear HSN; have HSN := n1_; clear n1_; have n2_ := Aside0.mk (Kd.V_below HWN.out hb_); clear HWN; have HWN := n2_; clear n2_; clear hq_0 hq_1 hq_2 hq_3 hq_4 hq_5 hq_6 hq_7; clear HB hb_; have HB := n0_; clear n0_; have hq_0 : wj.cell? ⟨gq, 0, none⟩ = some (.bool true) := (blk_cell (blk_below BKQ.out HB.out) 0).trans rfl; have hq_1 : wj.cell? ⟨gq, 1, none⟩ = some (.int .i64 d.f0) := (blk_cell (blk_below BKQ.out HB.out) 1).trans rfl; have hq_2 : wj.cell? ⟨gq, 2, none⟩ = some (.string d.f1) := (blk_cell (blk_below BKQ.out HB.out) 2).trans rfl; have hq_3 : wj.cell? ⟨gq, 3, none⟩ = some (.string d.f2) := (blk_cell (blk_below BKQ.out HB.out) 3).trans rfl; have hq_4 : wj.cell? ⟨gq, 4, none⟩ = some (.slice A2 d.f3.length c2) := (blk_cell (blk_below BKQ.out HB.out) 4).trans rfl; have hq_5 : wj.cell? ⟨gq, 5, none⟩ = some (.string d.f4) := (blk_cell (blk_below BKQ.out HB.out) 5).trans rfl; have hq_6 : wj.cell? ⟨gq, 6, none⟩ = some (.string d.f5) := (blk_cell (blk_below BKQ.out HB.out) 6).trans rfl; have hq_7 : wj.cell? ⟨gq, 7, none⟩ = some (.string ks) := (blk_cell (blk_below BKQ.out HB.out) 7).trans rfl))
              go_roundg (gk - 1)
              case measure => have := HKQ.out; have := HX.out; omega
              case rel => exact ⟨x + 1, some ⟨gn, 0, none⟩, dropL key ks out, An, cn, rfl, rfl, (by first | rfl | rw [hw1]), HX.out.1, ⟨by have := HKQ.out; have := HX.out; omega⟩, ⟨HSN.out⟩, ⟨HWN.out⟩, ⟨dropL_ris ks HRIS.out⟩, ⟨Nat.le_trans (dropL_len ks out) (by have := HXL.out; omega)⟩, ⟨HNM.out⟩, ⟨below_step HBW.out (by repeat (first | (with_reducible first | exact HB.out | apply below_alloc | apply pw_below_drewN | apply below_drew1) | exact HB.out))⟩⟩
            | false =>
              obtain ⟨hrt, hr1_, hr2_⟩ := HR.out d HDL.out
              obtain ⟨hky, hkl, hlv⟩ := HL.out d HDL.out
              obtain ⟨rbv, hrbv⟩ : ∃ b, b = rb d := ⟨_, rfl⟩
              rw [← hrbv] at hrt hr1_ hr2_
              have HRT := Aside0.mk hrt
              have HKS := Aside0.mk hkl
              have HLV := Aside0.mk hlv
              clear hrbv hrt hkl hlv
              cases rbv with
              | false => as_aux_lemma =>
                rw [hr2_ rfl] at hky
                have HKY := Aside0.mk hky
                clear hky hr1_ hr2_
                go_upto_region 11 with (fail)
                have bk_ := blk_new wr (Obj.cells #[.bool false, .int .i64 d.f0, .string d.f1, .string d.f2, .slice A2 d.f3.length c2, .string d.f4, .string d.f5, .string ks] 36)
                have hb_ := below_alloc (Below.refl wr.heap.size wr) (Obj.cells #[.bool false, .int .i64 d.f0, .string d.f1, .string d.f2, .slice A2 d.f3.length c2, .string d.f4, .string d.f5, .string ks] 36)
                generalize wr.alloc (Obj.cells #[.bool false, .int .i64 d.f0, .string d.f1, .string d.f2, .slice A2 d.f3.length c2, .string d.f4, .string d.f5, .string ks] 36) = W5 at bk_ hb_ ⊢
                obtain ⟨gq, hgq⟩ : ∃ gq, gq = wr.heap.size := ⟨_, rfl⟩
                rw [← hgq] at bk_ ⊢
                clear hgq q0 q1 q2 q3 q4 q5 q6 q7
                have HBW := Aside0.mk (below_step HBR.out hb_)
                have n1_ := Aside0.mk (HS.out.below hb_)
                have n2_ := Aside0.mk (Kd.V_below HV.out hb_)
                have n3_ := Aside0.mk (Kd.C_below HC2.out hb_)
                clear HS HV HC2 HBR
                have HS := n1_
                have HV := n2_
                have HC2 := n3_
                have HVS := Aside0.mk (VS_of_C (base := 0) HC2.out HL2.out)
                clear n1_ n2_ n3_
                have HB := Aside0.mk (Below.refl W5.heap.size W5)
                have BKQ := Aside0.mk bk_
                clear hb_ bk_
                have hq_0 : W5.cell? ⟨gq, 0, none⟩ = some (.bool false) := (blk_cell (blk_below BKQ.out HB.out) 0).trans rfl
                have hq_1 : W5.cell? ⟨gq, 1, none⟩ = some (.int .i64 d.f0) := (blk_cell (blk_below BKQ.out HB.out) 1).trans rfl
                have hq_2 : W5.cell? ⟨gq, 2, none⟩ = some (.string d.f1) := (blk_cell (blk_below BKQ.out HB.out) 2).trans rfl
                have hq_3 : W5.cell? ⟨gq, 3, none⟩ = some (.string d.f2) := (blk_cell (blk_below BKQ.out HB.out) 3).trans rfl
                have hq_4 : W5.cell? ⟨gq, 4, none⟩ = some (.slice A2 d.f3.length c2) := (blk_cell (blk_below BKQ.out HB.out) 4).trans rfl
                have hq_5 : W5.cell? ⟨gq, 5, none⟩ = some (.string d.f4) := (blk_cell (blk_below BKQ.out HB.out) 5).trans rfl
                have hq_6 : W5.cell? ⟨gq, 6, none⟩ = some (.string d.f5) := (blk_cell (blk_below BKQ.out HB.out) 6).trans rfl
                have hq_7 : W5.cell? ⟨gq, 7, none⟩ = some (.string ks) := (blk_cell (blk_below BKQ.out HB.out) 7).trans rfl
                go_wp2_with (first | (go_at_call 19; (with_reducible refine (monticuleref07_Small.calls k d.f0 d.f1 d.f2 A2 c2 d.f3 d.f4 d.f5 _ _ ?s1 HL2.out HSM.out).mono ?_); (case s1 => exact Kd.C_below HC2.out (by repeat (first | (with_reducible first | exact HB.out | apply below_alloc | apply pw_below_drewN | apply below_drew1) | exact HB.out))); rintro e ws ⟨rfl, hb_⟩; have n0_ := Aside0.mk (below_step (by repeat (first | (with_reducible first | exact HB.out | apply below_alloc | apply pw_below_drewN | apply below_drew1) | exact HB.out)) hb_); clear hq_0 hq_1 hq_2 hq_3 hq_4 hq_5 hq_6 hq_7; clear HB hb_; have HB := n0_; clear n0_; have hq_0 : ws.cell? ⟨gq, 0, none⟩ = some (.bool false) := (blk_cell (blk_below BKQ.out HB.out) 0).trans rfl; have hq_1 : ws.cell? ⟨gq, 1, none⟩ = some (.int .i64 d.f0) := (blk_cell (blk_below BKQ.out HB.out) 1).trans rfl; have hq_2 : ws.cell? ⟨gq, 2, none⟩ = some (.string d.f1) := (blk_cell (blk_below BKQ.out HB.out) 2).trans rfl; have hq_3 : ws.cell? ⟨gq, 3, none⟩ = some (.string d.f2) := (blk_cell (blk_below BKQ.out HB.out) 3).trans rfl; have hq_4 : ws.cell? ⟨gq, 4, none⟩ = some (.slice A2 d.f3.length c2) := (blk_cell (blk_below BKQ.out HB.out) 4).trans rfl; have hq_5 : ws.cell? ⟨gq, 5, none⟩ = some (.string d.f4) := (blk_cell (blk_below BKQ.out HB.out) 5).trans rfl; have hq_6 : ws.cell? ⟨gq, 6, none⟩ = some (.string d.f5) := (blk_cell (blk_below BKQ.out HB.out) 6).trans rfl; have hq_7 : ws.cell? ⟨gq, 7, none⟩ = some (.string ks) := (blk_cell (blk_below BKQ.out HB.out) 7).trans rfl) | (go_at_call 23; (with_reducible refine (put_empty k _ (.pointer p) (mapK key out) d A2 c2 (HS.out.below (by repeat (first | (with_reducible first | exact HB.out | apply below_alloc | apply pw_below_drewN | apply below_drew1) | exact HB.out))) HL2.out ?s1 HKY.out).mono ?_); (case s1 => exact C_cells HC2.out (.below (by repeat (first | (with_reducible first | exact HB.out | apply below_alloc | apply pw_below_drewN | apply below_drew1) | exact HB.out)))); rintro e w5 ⟨rfl, hb_⟩; have n0_ := Aside0.mk (below_step (by repeat (first | (with_reducible first | exact HB.out | apply below_alloc | apply pw_below_drewN | apply below_drew1) | exact HB.out)) hb_); clear hq_0 hq_1 hq_2 hq_3 hq_4 hq_5 hq_6 hq_7; clear HB hb_; have HB := n0_; clear n0_; have hq_0 : w5.cell? ⟨gq, 0, none⟩ = some (.bool false) := (blk_cell (blk_below BKQ.out HB.out) 0).trans rfl; have hq_1 : w5.cell? ⟨gq, 1, none⟩ = some (.int .i64 d.f0) := (blk_cell (blk_below BKQ.out HB.out) 1).trans rfl; have hq_2 : w5.cell? ⟨gq, 2, none⟩ = some (.string d.f1) := (blk_cell (blk_below BKQ.out HB.out) 2).trans rfl; have hq_3 : w5.cell? ⟨gq, 3, none⟩ = some (.string d.f2) := (blk_cell (blk_below BKQ.out HB.out) 3).trans rfl; have hq_4 : w5.cell? ⟨gq, 4, none⟩ = some (.slice A2 d.f3.length c2) := (blk_cell (blk_below BKQ.out HB.out) 4).trans rfl; have hq_5 : w5.cell? ⟨gq, 5, none⟩ = some (.string d.f4) := (blk_cell (blk_below BKQ.out HB.out) 5).trans rfl; have hq_6 : w5.cell? ⟨gq, 6, none⟩ = some (.string d.f5) := (blk_cell (blk_below BKQ.out HB.out) 6).trans rfl; have hq_7 : w5.cell? ⟨gq, 7, none⟩ = some (.string ks) := (blk_cell (blk_below BKQ.out HB.out) 7).trans rfl) | (go_at_call 21; (with_reducible refine (is_same key sm k _ p out Aw cw (HS.out.below (by repeat (first | (with_reducible first | exact HB.out | apply below_alloc | apply pw_below_drewN | apply below_drew1) | exact HB.out))) (Kd.V_below HV.out (by repeat (first | (with_reducible first | exact HB.out | apply below_alloc | apply pw_below_drewN | apply below_drew1) | exact HB.out))) HOL.out HOV.out HOS.out HOE.out).mono ?_); rintro e wi ⟨rfl, hb_⟩; have n0_ := Aside0.mk (below_step (by repeat (first | (with_reducible first | exact HB.out | apply below_alloc | apply pw_below_drewN | apply below_drew1) | exact HB.out)) hb_); clear hq_0 hq_1 hq_2 hq_3 hq_4 hq_5 hq_6 hq_7; clear HB hb_; have HB := n0_; clear n0_; have hq_0 : wi.cell? ⟨gq, 0, none⟩ = some (.bool false) := (blk_cell (blk_below BKQ.out HB.out) 0).trans rfl; have hq_1 : wi.cell? ⟨gq, 1, none⟩ = some (.int .i64 d.f0) := (blk_cell (blk_below BKQ.out HB.out) 1).trans rfl; have hq_2 : wi.cell? ⟨gq, 2, none⟩ = some (.string d.f1) := (blk_cell (blk_below BKQ.out HB.out) 2).trans rfl; have hq_3 : wi.cell? ⟨gq, 3, none⟩ = some (.string d.f2) := (blk_cell (blk_below BKQ.out HB.out) 3).trans rfl; have hq_4 : wi.cell? ⟨gq, 4, none⟩ = some (.slice A2 d.f3.length c2) := (blk_cell (blk_below BKQ.out HB.out) 4).trans rfl; have hq_5 : wi.cell? ⟨gq, 5, none⟩ = some (.string d.f4) := (blk_cell (blk_below BKQ.out HB.out) 5).trans rfl; have hq_6 : wi.cell? ⟨gq, 6, none⟩ = some (.string d.f5) := (blk_cell (blk_below BKQ.out HB.out) 6).trans rfl; have hq_7 : wi.cell? ⟨gq, 7, none⟩ = some (.string ks) := (blk_cell (blk_below BKQ.out HB.out) 7).trans rfl) | (go_at_call 24; (with_reducible refine (monticuleref07_Right.calls k d.f0 d.f1 d.f2 A2 c2 d.f3 d.f4 d.f5 _ _ ?s1 HL2.out HRT.out).mono ?_); (case s1 => exact Kd.C_below HC2.out (by repeat (first | (with_reducible first | exact HB.out | apply below_alloc | apply pw_below_drewN | apply below_drew1) | exact HB.out))); rintro e wr_ ⟨rfl, hb_⟩; have n0_ := Aside0.mk (below_step (by repeat (first | (with_reducible first | exact HB.out | apply below_alloc | apply pw_below_drewN | apply below_drew1) | exact HB.out)) hb_); clear hq_0 hq_1 hq_2 hq_3 hq_4 hq_5 hq_6 hq_7; clear HB hb_; have HB := n0_; clear n0_; have hq_0 : wr_.cell? ⟨gq, 0, none⟩ = some (.bool false) := (blk_cell (blk_below BKQ.out HB.out) 0).trans rfl; have hq_1 : wr_.cell? ⟨gq, 1, none⟩ = some (.int .i64 d.f0) := (blk_cell (blk_below BKQ.out HB.out) 1).trans rfl; have hq_2 : wr_.cell? ⟨gq, 2, none⟩ = some (.string d.f1) := (blk_cell (blk_below BKQ.out HB.out) 2).trans rfl; have hq_3 : wr_.cell? ⟨gq, 3, none⟩ = some (.string d.f2) := (blk_cell (blk_below BKQ.out HB.out) 3).trans rfl; have hq_4 : wr_.cell? ⟨gq, 4, none⟩ = some (.slice A2 d.f3.length c2) := (blk_cell (blk_below BKQ.out HB.out) 4).trans rfl; have hq_5 : wr_.cell? ⟨gq, 5, none⟩ = some (.string d.f4) := (blk_cell (blk_below BKQ.out HB.out) 5).trans rfl; have hq_6 : wr_.cell? ⟨gq, 6, none⟩ = some (.string d.f5) := (blk_cell (blk_below BKQ.out HB.out) 6).trans rfl; have hq_7 : wr_.cell? ⟨gq, 7, none⟩ = some (.string ks) := (blk_cell (blk_below BKQ.out HB.out) 7).trans rfl))
                go_roundg (gk - 1)
                case measure => have := HKQ.out; have := HX.out; omega
                case rel => exact ⟨x + 1, p, out, Aw, cw, rfl, rfl, (by first | rfl | rw [hw1]), HX.out.1, ⟨by have := HKQ.out; have := HX.out; omega⟩, ⟨HS.out.below (by repeat (first | (with_reducible first | exact HB.out | apply below_alloc | apply pw_below_drewN | apply below_drew1) | exact HB.out))⟩, ⟨Kd.V_below HV.out (by repeat (first | (with_reducible first | exact HB.out | apply below_alloc | apply pw_below_drewN | apply below_drew1) | exact HB.out))⟩, ⟨HRIS.out⟩, ⟨by have := HXL.out; omega⟩, ⟨HM.out⟩, ⟨below_step HBW.out (by repeat (first | (with_reducible first | exact HB.out | apply below_alloc | apply pw_below_drewN | apply below_drew1) | exact HB.out))⟩⟩
              | true => as_aux_lemma =>
                have HKY := Aside0.mk hky
                have HK0 := Aside0.mk (hr1_ rfl)
                clear hky hr1_ hr2_
                obtain ⟨k1, hk1⟩ := HPUT.out out (by have := HXL.out; have := HX.out; omega) HM.out d HDL.out
                have HPU := Aside0.mk hk1
                clear hk1
                have HNL := Aside0.mk (show (putL key d out false).length ≤ 1000 from Nat.le_trans (Nat.le_trans (putL_len d out false) (Nat.add_le_add_right HXL.out _)) (by have := HX.out; simp; omega))
                have HNM := Aside0.mk (show ∀ y ∈ putL key d out false, y ∈ L from fun y hy => by rcases putL_mem d hy with rfl | hy; exact HDL.out; exact HM.out y hy)
                have HNV := Aside0.mk (fun y hy => (HL.out y (HNM.out y hy)).2.2)
                have HNS := Aside0.mk (fun x hx y hy => HSAME.out x (HNM.out x hx) y (HNM.out y hy))
                have HNE := Aside0.mk (fun x hx => HSELF.out x (HNM.out x hx))
                go_upto_region 11 with (fail)
                have bk_ := blk_new wr (Obj.cells #[.bool false, .int .i64 d.f0, .string d.f1, .string d.f2, .slice A2 d.f3.length c2, .string d.f4, .string d.f5, .string ks] 36)
                have hb_ := below_alloc (Below.refl wr.heap.size wr) (Obj.cells #[.bool false, .int .i64 d.f0, .string d.f1, .string d.f2, .slice A2 d.f3.length c2, .string d.f4, .string d.f5, .string ks] 36)
                generalize wr.alloc (Obj.cells #[.bool false, .int .i64 d.f0, .string d.f1, .string d.f2, .slice A2 d.f3.length c2, .string d.f4, .string d.f5, .string ks] 36) = W5 at bk_ hb_ ⊢
                obtain ⟨gq, hgq⟩ : ∃ gq, gq = wr.heap.size := ⟨_, rfl⟩
                rw [← hgq] at bk_ ⊢
                clear hgq q0 q1 q2 q3 q4 q5 q6 q7
                have HBW := Aside0.mk (below_step HBR.out hb_)
                have n1_ := Aside0.mk (HS.out.below hb_)
                have n2_ := Aside0.mk (Kd.V_below HV.out hb_)
                have n3_ := Aside0.mk (Kd.C_below HC2.out hb_)
                clear HS HV HC2 HBR
                have HS := n1_
                have HV := n2_
                have HC2 := n3_
                have HVS := Aside0.mk (VS_of_C (base := 0) HC2.out HL2.out)
                clear n1_ n2_ n3_
                have HB := Aside0.mk (Below.refl W5.heap.size W5)
                have BKQ := Aside0.mk bk_
                clear hb_ bk_
                have hq_0 : W5.cell? ⟨gq, 0, none⟩ = some (.bool false) := (blk_cell (blk_below BKQ.out HB.out) 0).trans rfl
                have hq_1 : W5.cell? ⟨gq, 1, none⟩ = some (.int .i64 d.f0) := (blk_cell (blk_below BKQ.out HB.out) 1).trans rfl
                have hq_2 : W5.cell? ⟨gq, 2, none⟩ = some (.string d.f1) := (blk_cell (blk_below BKQ.out HB.out) 2).trans rfl
                have hq_3 : W5.cell? ⟨gq, 3, none⟩ = some (.string d.f2) := (blk_cell (blk_below BKQ.out HB.out) 3).trans rfl
                have hq_4 : W5.cell? ⟨gq, 4, none⟩ = some (.slice A2 d.f3.length c2) := (blk_cell (blk_below BKQ.out HB.out) 4).trans rfl
                have hq_5 : W5.cell? ⟨gq, 5, none⟩ = some (.string d.f4) := (blk_cell (blk_below BKQ.out HB.out) 5).trans rfl
                have hq_6 : W5.cell? ⟨gq, 6, none⟩ = some (.string d.f5) := (blk_cell (blk_below BKQ.out HB.out) 6).trans rfl
                have hq_7 : W5.cell? ⟨gq, 7, none⟩ = some (.string ks) := (blk_cell (blk_below BKQ.out HB.out) 7).trans rfl
                go_wp2_with (first | (go_at_call 19; (with_reducible refine (monticuleref07_Small.calls k d.f0 d.f1 d.f2 A2 c2 d.f3 d.f4 d.f5 _ _ ?s1 HL2.out HSM.out).mono ?_); (case s1 => exact Kd.C_below HC2.out (by repeat (first | (with_reducible first | exact HB.out | apply below_alloc | apply pw_below_drewN | apply below_drew1) | exact HB.out))); rintro e ws ⟨rfl, hb_⟩; have n0_ := Aside0.mk (below_step (by repeat (first | (with_reducible first | exact HB.out | apply below_alloc | apply pw_below_drewN | apply below_drew1) | exact HB.out)) hb_); clear hq_0 hq_1 hq_2 hq_3 hq_4 hq_5 hq_6 hq_7; clear HB hb_; have HB := n0_; clear n0_; have hq_0 : ws.cell? ⟨gq, 0, none⟩ = some (.bool false) := (blk_cell (blk_below BKQ.out HB.out) 0).trans rfl; have hq_1 : ws.cell? ⟨gq, 1, none⟩ = some (.int .i64 d.f0) := (blk_cell (blk_below BKQ.out HB.out) 1).trans rfl; have hq_2 : ws.cell? ⟨gq, 2, none⟩ = some (.string d.f1) := (blk_cell (blk_below BKQ.out HB.out) 2).trans rfl; have hq_3 : ws.cell? ⟨gq, 3, none⟩ = some (.string d.f2) := (blk_cell (blk_below BKQ.out HB.out) 3).trans rfl; have hq_4 : ws.cell? ⟨gq, 4, none⟩ = some (.slice A2 d.f3.length c2) := (blk_cell (blk_below BKQ.out HB.out) 4).trans rfl; have hq_5 : ws.cell? ⟨gq, 5, none⟩ = some (.string d.f4) := (blk_cell (blk_below BKQ.out HB.out) 5).trans rfl; have hq_6 : ws.cell? ⟨gq, 6, none⟩ = some (.string d.f5) := (blk_cell (blk_below BKQ.out HB.out) 6).trans rfl; have hq_7 : ws.cell? ⟨gq, 7, none⟩ = some (.string ks) := (blk_cell (blk_below BKQ.out HB.out) 7).trans rfl) | (go_at_call 23; (with_reducible refine (put_ok k _ (.pointer p) (mapK key out) d A2 c2 (key d) (HS.out.below (by repeat (first | (with_reducible first | exact HB.out | apply below_alloc | apply pw_below_drewN | apply below_drew1) | exact HB.out))) HL2.out ?s1 HKY.out HK0.out HKS.out HLV.out HSZ5.out).mono ?_); (case s1 => exact C_cells HC2.out (.below (by repeat (first | (with_reducible first | exact HB.out | apply below_alloc | apply pw_below_drewN | apply below_drew1) | exact HB.out)))); rintro e w5 ⟨vv, rfl, hs_, hb_⟩; rw [put_mapK d HRIS.out] at hs_; obtain ⟨gn, bn, rfl, hsn_⟩ := hs_; have HSN := Aside0.mk (show Sn w5 (.pointer (some ⟨gn, 0, none⟩)) (mapK key (putL key d out false)) from Or.inr ⟨gn, bn, rfl, hsn_.1, hsn_.2.1⟩); have n0_ := Aside0.mk (below_step (by repeat (first | (with_reducible first | exact HB.out | apply below_alloc | apply pw_below_drewN | apply below_drew1) | exact HB.out)) hb_); clear hq_0 hq_1 hq_2 hq_3 hq_4 hq_5 hq_6 hq_7; clear HB hb_; have HB := n0_; clear n0_; have hq_0 : w5.cell? ⟨gq, 0, none⟩ = some (.bool false) := (blk_cell (blk_below BKQ.out HB.out) 0).trans rfl; have hq_1 : w5.cell? ⟨gq, 1, none⟩ = some (.int .i64 d.f0) := (blk_cell (blk_below BKQ.out HB.out) 1).trans rfl; have hq_2 : w5.cell? ⟨gq, 2, none⟩ = some (.string d.f1) := (blk_cell (blk_below BKQ.out HB.out) 2).trans rfl; have hq_3 : w5.cell? ⟨gq, 3, none⟩ = some (.string d.f2) := (blk_cell (blk_below BKQ.out HB.out) 3).trans rfl; have hq_4 : w5.cell? ⟨gq, 4, none⟩ = some (.slice A2 d.f3.length c2) := (blk_cell (blk_below BKQ.out HB.out) 4).trans rfl; have hq_5 : w5.cell? ⟨gq, 5, none⟩ = some (.string d.f4) := (blk_cell (blk_below BKQ.out HB.out) 5).trans rfl; have hq_6 : w5.cell? ⟨gq, 6, none⟩ = some (.string d.f5) := (blk_cell (blk_below BKQ.out HB.out) 6).trans rfl; have hq_7 : w5.cell? ⟨gq, 7, none⟩ = some (.string ks) := (blk_cell (blk_below BKQ.out HB.out) 7).trans rfl; clear hsn_) | (go_at_call 21; (with_reducible refine (is_same key sm k _ p out Aw cw (HS.out.below (by repeat (first | (with_reducible first | exact HB.out | apply below_alloc | apply pw_below_drewN | apply below_drew1) | exact HB.out))) (Kd.V_below HV.out (by repeat (first | (with_reducible first | exact HB.out | apply below_alloc | apply pw_below_drewN | apply below_drew1) | exact HB.out))) HOL.out HOV.out HOS.out HOE.out).mono ?_); rintro e wi ⟨rfl, hb_⟩; have n0_ := Aside0.mk (below_step (by repeat (first | (with_reducible first | exact HB.out | apply below_alloc | apply pw_below_drewN | apply below_drew1) | exact HB.out)) hb_); have n1_ := Aside0.mk (HSN.out.below hb_); clear HSN; have HSN := n1_; clear n1_; clear hq_0 hq_1 hq_2 hq_3 hq_4 hq_5 hq_6 hq_7; clear HB hb_; have HB := n0_; clear n0_; have hq_0 : wi.cell? ⟨gq, 0, none⟩ = some (.bool false) := (blk_cell (blk_below BKQ.out HB.out) 0).trans rfl; have hq_1 : wi.cell? ⟨gq, 1, none⟩ = some (.int .i64 d.f0) := (blk_cell (blk_below BKQ.out HB.out) 1).trans rfl; have hq_2 : wi.cell? ⟨gq, 2, none⟩ = some (.string d.f1) := (blk_cell (blk_below BKQ.out HB.out) 2).trans rfl; have hq_3 : wi.cell? ⟨gq, 3, none⟩ = some (.string d.f2) := (blk_cell (blk_below BKQ.out HB.out) 3).trans rfl; have hq_4 : wi.cell? ⟨gq, 4, none⟩ = some (.slice A2 d.f3.length c2) := (blk_cell (blk_below BKQ.out HB.out) 4).trans rfl; have hq_5 : wi.cell? ⟨gq, 5, none⟩ = some (.string d.f4) := (blk_cell (blk_below BKQ.out HB.out) 5).trans rfl; have hq_6 : wi.cell? ⟨gq, 6, none⟩ = some (.string d.f5) := (blk_cell (blk_below BKQ.out HB.out) 6).trans rfl; have hq_7 : wi.cell? ⟨gq, 7, none⟩ = some (.string ks) := (blk_cell (blk_below BKQ.out HB.out) 7).trans rfl) | (go_at_call 24; (with_reducible refine (monticuleref07_Right.calls k d.f0 d.f1 d.f2 A2 c2 d.f3 d.f4 d.f5 _ _ ?s1 HL2.out HRT.out).mono ?_); (case s1 => exact Kd.C_below HC2.out (by repeat (first | (with_reducible first | exact HB.out | apply below_alloc | apply pw_below_drewN | apply below_drew1) | exact HB.out))); rintro e wr_ ⟨rfl, hb_⟩; have n0_ := Aside0.mk (below_step (by repeat (first | (with_reducible first | exact HB.out | apply below_alloc | apply pw_below_drewN | apply below_drew1) | exact HB.out)) hb_); have n1_ := Aside0.mk (HSN.out.below hb_); clear HSN; have HSN := n1_; clear n1_; clear hq_0 hq_1 hq_2 hq_3 hq_4 hq_5 hq_6 hq_7; clear HB hb_; have HB := n0_; clear n0_; have hq_0 : wr_.cell? ⟨gq, 0, none⟩ = some (.bool false) := (blk_cell (blk_below BKQ.out HB.out) 0).trans rfl; have hq_1 : wr_.cell? ⟨gq, 1, none⟩ = some (.int .i64 d.f0) := (blk_cell (blk_below BKQ.out HB.out) 1).trans rfl; have hq_2 : wr_.cell? ⟨gq, 2, none⟩ = some (.string d.f1) := (blk_cell (blk_below BKQ.out HB.out) 2).trans rfl; have hq_3 : wr_.cell? ⟨gq, 3, none⟩ = some (.string d.f2) := (blk_cell (blk_below BKQ.out HB.out) 3).trans rfl; have hq_4 : wr_.cell? ⟨gq, 4, none⟩ = some (.slice A2 d.f3.length c2) := (blk_cell (blk_below BKQ.out HB.out) 4).trans rfl; have hq_5 : wr_.cell? ⟨gq, 5, none⟩ = some (.string d.f4) := (blk_cell (blk_below BKQ.out HB.out) 5).trans rfl; have hq_6 : wr_.cell? ⟨gq, 6, none⟩ = some (.string d.f5) := (blk_cell (blk_below BKQ.out HB.out) 6).trans rfl; have hq_7 : wr_.cell? ⟨gq, 7, none⟩ = some (.string ks) := (blk_cell (blk_below BKQ.out HB.out) 7).trans rfl) | (go_at_call 25; (with_reducible refine (monticuleref08_Put.calls k1 (fun _ => True) Aw cw out d.f0 d.f1 d.f2 (fun _ => True) A2 c2 d.f3 d.f4 d.f5 (putL key d out false) _ ?s1 ?s2 HPU.out).mono ?_); (case s1 => exact VB (Kd.V_below HV.out (by repeat (first | (with_reducible first | exact HB.out | apply below_alloc | apply pw_below_drewN | apply below_drew1) | exact HB.out)))); (case s2 => exact VBS (Kd.V_below HVS.out (by repeat (first | (with_reducible first | exact HB.out | apply below_alloc | apply pw_below_drewN | apply below_drew1) | exact HB.out)))); rintro e w6 ⟨vw, rfl, hN_, hb_⟩; obtain ⟨An, cn, rfl, hV_⟩ := VT (base' := 0) hN_; have HWN := Aside0.mk hV_; have n0_ := Aside0.mk (below_step (by repeat (first | (with_reducible first | exact HB.out | apply below_alloc | apply pw_below_drewN | apply below_drew1) | exact HB.out)) hb_); have n1_ := Aside0.mk (HSN.out.below hb_); clear HSN; have HSN := n1_; clear n1_; clear hq_0 hq_1 hq_2 hq_3 hq_4 hq_5 hq_6 hq_7; clear HB hb_; have HB := n0_; clear n0_; have hq_0 : w6.cell? ⟨gq, 0, none⟩ = some (.bool false) := (blk_cell (blk_below BKQ.out HB.out) 0).trans rfl; have hq_1 : w6.cell? ⟨gq, 1, none⟩ = some (.int .i64 d.f0) := (blk_cell (blk_below BKQ.out HB.out) 1).trans rfl; have hq_2 : w6.cell? ⟨gq, 2, none⟩ = some (.string d.f1) := (blk_cell (blk_below BKQ.out HB.out) 2).trans rfl; have hq_3 : w6.cell? ⟨gq, 3, none⟩ = some (.string d.f2) := (blk_cell (blk_below BKQ.out HB.out) 3).trans rfl; have hq_4 : w6.cell? ⟨gq, 4, none⟩ = some (.slice A2 d.f3.length c2) := (blk_cell (blk_below BKQ.out HB.out) 4).trans rfl; have hq_5 : w6.cell? ⟨gq, 5, none⟩ = some (.string d.f4) := (blk_cell (blk_below BKQ.out HB.out) 5).trans rfl; have hq_6 : w6.cell? ⟨gq, 6, none⟩ = some (.string d.f5) := (blk_cell (blk_below BKQ.out HB.out) 6).trans rfl; have hq_7 : w6.cell? ⟨gq, 7, none⟩ = some (.string ks) := (blk_cell (blk_below BKQ.out HB.out) 7).trans rfl; clear hN_ hV_) | (go_at_call 21; (with_reducible refine (is_same key sm k _ (some ⟨gn, 0, none⟩) (putL key d out false) An cn HSN.out HWN.out HNL.out HNV.out HNS.out HNE.out).mono ?_); rintro e wj ⟨rfl, hb_⟩; have n0_ := Aside0.mk (below_step (by repeat (first | (with_reducible first | exact HB.out | apply below_alloc | apply pw_below_drewN | apply below_drew1) | exact HB.out)) hb_); have n1_ := Aside0.mk (HSN.out.below hb_); clear HSN; have HSN := n1_; clear n1_; have n2_ := Aside0.mk (Kd.V_below HWN.out hb_); clear HWN; have HWN := n2_; clear n2_; clear hq_0 hq_1 hq_2 hq_3 hq_4 hq_5 hq_6 hq_7; clear HB hb_; have HB := n0_; clear n0_; have hq_0 : wj.cell? ⟨gq, 0, none⟩ = some (.bool false) := (blk_cell (blk_below BKQ.out HB.out) 0).trans rfl; have hq_1 : wj.cell? ⟨gq, 1, none⟩ = some (.int .i64 d.f0) := (blk_cell (blk_below BKQ.out HB.out) 1).trans rfl; have hq_2 : wj.cell? ⟨gq, 2, none⟩ = some (.string d.f1) := (blk_cell (blk_below BKQ.out HB.out) 2).trans rfl; have hq_3 : wj.cell? ⟨gq, 3, none⟩ = some (.string d.f2) := (blk_cell (blk_below BKQ.out HB.out) 3).trans rfl; have hq_4 : wj.cell? ⟨gq, 4, none⟩ = some (.slice A2 d.f3.length c2) := (blk_cell (blk_below BKQ.out HB.out) 4).trans rfl; have hq_5 : wj.cell? ⟨gq, 5, none⟩ = some (.string d.f4) := (blk_cell (blk_below BKQ.out HB.out) 5).trans rfl; have hq_6 : wj.cell? ⟨gq, 6, none⟩ = some (.string d.f5) := (blk_cell (blk_below BKQ.out HB.out) 6).trans rfl; have hq_7 : wj.cell? ⟨gq, 7, none⟩ = some (.string ks) := (blk_cell (blk_below BKQ.out HB.out) 7).trans rfl))
                go_roundg (gk - 1)
                case measure => have := HKQ.out; have := HX.out; omega
                case rel => exact ⟨x + 1, some ⟨gn, 0, none⟩, putL key d out false, An, cn, rfl, rfl, (by first | rfl | rw [hw1]), HX.out.1, ⟨by have := HKQ.out; have := HX.out; omega⟩, ⟨HSN.out⟩, ⟨HWN.out⟩, ⟨putL_ris d HRIS.out⟩, ⟨Nat.le_trans (putL_len d out false) (by have := HXL.out; simp; omega)⟩, ⟨HNM.out⟩, ⟨below_step HBW.out (by repeat (first | (with_reducible first | exact HB.out | apply below_alloc | apply pw_below_drewN | apply below_drew1) | exact HB.out))⟩⟩
end Go.Proofs.YtmlebgikdegjjaaGreatDoor.Hd
