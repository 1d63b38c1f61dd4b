/- SnapOrders, both changes fit: ord_tt. -/
import Derived.Test.YtmlebgikdegjjaaDoorSg
import Derived.Test.YtmlebgikdegjjaaDoorPAllx3
import Derived.Test.YtmlebgikdegjjaaDoorPAllx3
import Derived.Test.YtmlebgikdegjjaaDoorPAllx6
import Derived.Test.YtmlebgikdegjjaaDoorPAllx7
namespace Go.Proofs.YtmlebgikdegjjaaDoor.Hd
open Go.Maps Go.RowKit Go.Proofs.YtmlebgikdegjjaaDoorW.PrintWords Go.Proofs.YtmlebgikdegjjaaDoorW.PrintLast Go.Proofs.YtmlebgikdegjjaaDoorW.PrintMore Go.Proofs.YtmlebgikdegjjaaDoor.PAll
attribute [local go_sem] max2_int min2_int max_two min_two max_three min_three max_four min_four
set_option linter.unusedVariables false
set_option linter.unusedSimpArgs false
def snapordSj.T6 : Bool × List (List Nat × List Nat) := (true, [([], []), ([0], [0]), ([], []), ([2], [2]), ([1, 0, 1], [1]), ([3, 4, 0, 1, 2, 3, 4], [3])])
def snapordSj.B6 : List Nat := [0, 1, 0, 4, 3, 31]
theorem snapordSj.tab6 : rtab .any (opsOf Tryd.f3 6) = snapordSj.T6 := by kernel_rfl
theorem snapordSj.bits6 : waitsOk snapordSj.T6.2 snapordSj.B6 = true := by kernel_rfl
def snapordSj.T13 : Bool × List (List Nat × List Nat) := (true, [([], []), ([], []), ([0, 1], [0, 1]), ([], []), ([2, 3, 2], [2, 3]), ([], []), ([], []), ([5, 6, 4], [5, 6]), ([], []), ([7, 8, 7], [7, 8]), ([4, 9, 0, 1, 2, 3, 4], [4]), ([9, 10, 0, 1, 2, 3, 4, 5, 6, 7, 8, 9, 10], [9])])
def snapordSj.B13 : List Nat := [0, 0, 3, 0, 15, 0, 0, 127, 0, 511, 1023, 2047]
theorem snapordSj.tab13 : rtab .any (opsOf Tryd.f3 13) = snapordSj.T13 := by kernel_rfl
theorem snapordSj.bits13 : waitsOk snapordSj.T13.2 snapordSj.B13 = true := by kernel_rfl
set_option maxHeartbeats 16000000 in
set_option maxRecDepth 100000 in
theorem ord_tt (k : Nat) (key : S25 → ByteArray) (sm : S25 → S25 → Bool) (A0 : Option Addr) (c0 : Nat) (l : List S25) (xa xb : S25) (Aa Ab : Option Addr) (ca cb : Nat) (ka kb : ByteArray) (w : World) (hr0 : Kd.C k25 w A0 l.length l) (hc0 : l.length ≤ c0) (hla : xa.f3.length ≤ ca) (hca : Kd.string.C w Aa xa.f3.length xa.f3) (hlb : xb.f3.length ≤ cb) (hcb : Kd.string.C w Ab xb.f3.length xb.f3) (h1 : monticuleref07_Few.f k l 10 = some true) (h2 : monticuleref07_Small.f k xa.f0 xa.f1 xa.f2 xa.f3 xa.f4 xa.f5 = some true) (h3 : monticuleref07_Small.f k xb.f0 xb.f1 xb.f2 xb.f3 xb.f4 xb.f5 = some true) (hka : ka.size ≤ 700) (hkb : kb.size ≤ 700) (hln : l.length ≤ 10) (hkey : ∀ d ∈ l, def_Key.f k d.f0 d.f1 d.f2 d.f3 d.f4 d.f5 = some (key d) ∧ (key d).size ≤ 1000000 ∧ d.f3.length ≤ 1000000) (M0 : DataW S25) (hng : newGo key l (.map []) = (M0, 0))  (hsm : ∀ x y, (x ∈ l ∨ x = xa ∨ x = xb) → (y ∈ l ∨ y = xa ∨ y = xb) → def_Same.f k x.f0 x.f1 x.f2 x.f3 x.f4 x.f5 y.f0 y.f1 y.f2 y.f3 y.f4 y.f5 = some (sm x y)) (hself : ∀ x, (x ∈ l ∨ x = xa ∨ x = xb) → sm x x = true) :
    Calls Tryd.prog 3 #[.slice A0 l.length c0, .agg #[.bool true, .int .i64 xa.f0, .string xa.f1, .string xa.f2, .slice Aa xa.f3.length ca, .string xa.f4, .string xa.f5, .string ka], .agg #[.bool true, .int .i64 xb.f0, .string xb.f1, .string xb.f2, .slice Ab xb.f3.length cb, .string xb.f4, .string xb.f5, .string kb]] w fun e w' => e = .returned (.bool true) ∧ Below w.heap.size w w' := by
  have hu25 := Tryd.underlying25
  have hu27 := Tryd.underlying27
  have HC0 := Aside0.mk hc0
  have HLa := Aside0.mk hla
  have HLb := Aside0.mk hlb
  have HF1 := Aside0.mk h1
  have HF2 := Aside0.mk h2
  have HF3 := Aside0.mk h3
  clear hc0 hla hlb h1 h2 h3
  go_enter Tryd.func3, Tryd.ntmps3
  go_upto_region 1 with (fail)
  have bka_ := blk_alloc (blk_new w (Obj.cells #[.bool true, .int .i64 xa.f0, .string xa.f1, .string xa.f2, .slice Aa xa.f3.length ca, .string xa.f4, .string xa.f5, .string ka] 27)) (Obj.cells #[.bool true, .int .i64 xb.f0, .string xb.f1, .string xb.f2, .slice Ab xb.f3.length cb, .string xb.f4, .string xb.f5, .string kb] 27)
  have bkb_ := blk_new (w.alloc (Obj.cells #[.bool true, .int .i64 xa.f0, .string xa.f1, .string xa.f2, .slice Aa xa.f3.length ca, .string xa.f4, .string xa.f5, .string ka] 27)) (Obj.cells #[.bool true, .int .i64 xb.f0, .string xb.f1, .string xb.f2, .slice Ab xb.f3.length cb, .string xb.f4, .string xb.f5, .string kb] 27)
  have hb_ := below_alloc (below_alloc (Below.refl w.heap.size w) (Obj.cells #[.bool true, .int .i64 xa.f0, .string xa.f1, .string xa.f2, .slice Aa xa.f3.length ca, .string xa.f4, .string xa.f5, .string ka] 27)) (Obj.cells #[.bool true, .int .i64 xb.f0, .string xb.f1, .string xb.f2, .slice Ab xb.f3.length cb, .string xb.f4, .string xb.f5, .string kb] 27)
  have hsz_ : (w.alloc (Obj.cells #[.bool true, .int .i64 xa.f0, .string xa.f1, .string xa.f2, .slice Aa xa.f3.length ca, .string xa.f4, .string xa.f5, .string ka] 27)).heap.size = w.heap.size + 1 := by show (w.heap.push _).size = _; simp
  rw [hsz_] at bkb_
  generalize (w.alloc (Obj.cells #[.bool true, .int .i64 xa.f0, .string xa.f1, .string xa.f2, .slice Aa xa.f3.length ca, .string xa.f4, .string xa.f5, .string ka] 27)).alloc (Obj.cells #[.bool true, .int .i64 xb.f0, .string xb.f1, .string xb.f2, .slice Ab xb.f3.length cb, .string xb.f4, .string xb.f5, .string kb] 27) = W1 at bka_ bkb_ hb_ ⊢
  clear hsz_
  obtain ⟨gB, hgB⟩ : ∃ gB, gB = w.heap.size + 1 := ⟨_, rfl⟩
  rw [← hgB] at bkb_ ⊢
  obtain ⟨gA, hgA⟩ : ∃ gA, gA = w.heap.size := ⟨_, rfl⟩
  rw [← hgA] at bka_ ⊢
  have BKA := Aside0.mk bka_
  have BKB := Aside0.mk bkb_
  have HR0 := Aside0.mk (Kd.C_below hr0 hb_)
  have HCa := Aside0.mk (Kd.C_below hca hb_)
  have HCb := Aside0.mk (Kd.C_below hcb hb_)
  have HBW := Aside0.mk hb_
  have HB := Aside0.mk (Below.refl W1.heap.size W1)
  clear bka_ bkb_ hb_ hgA hgB hr0 hca hcb
  have ca_ : decide ((700 : Int) < (ka.size : Int)) = false := decide_eq_false (by omega)
  have ca2_ : ((700 : Int) < (ka.size : Int)) = False := eq_false (by omega)
  have cb_ : decide ((700 : Int) < (kb.size : Int)) = false := decide_eq_false (by omega)
  have cb2_ : ((700 : Int) < (kb.size : Int)) = False := eq_false (by omega)
  have HLN10 := Aside0.mk hln
  have HLN := Aside0.mk (show l.length ≤ 400 by omega)
  have HKEY := Aside0.mk hkey
  have HKZa := Aside0.mk (show ka.size ≤ 1000000 by omega)
  have HKZb := Aside0.mk (show kb.size ≤ 1000000 by omega)
  have HNG := Aside0.mk hng
  have hnf := newGo_facts key l (.map []) isMap_empty
  rw [hng] at hnf
  have HIM := Aside0.mk hnf.1
  have HZ0 := Aside0.mk (show Maps.size M0 ≤ 1000 by have h_ : Maps.size M0 ≤ Maps.size (.map [] : DataW S25) + l.length := hnf.2.1; have h2_ : Maps.size (.map [] : DataW S25) = 0 := rfl; omega)
  have HZS0 := Aside0.mk (show Maps.size M0 ≤ 10 by have h_ : Maps.size M0 ≤ Maps.size (.map [] : DataW S25) + l.length := hnf.2.1; have h2_ : Maps.size (.map [] : DataW S25) = 0 := rfl; omega)
  have HE0 := Aside0.mk (show ∀ x, ElemOf M0 x → x ∈ l from fun x hx => (hnf.2.2 x hx).resolve_right (fun h_ => elem_empty h_))
  clear hln hkey hka hkb hng hnf
  have HSM := Aside0.mk hsm
  have HSELF := Aside0.mk hself
  clear hsm hself
  have HZa := Aside0.mk (show Maps.size (chM M0 true xa ka (key xa)) ≤ 1000 by have h_ := size_ch M0 true xa ka (key xa); have := HZS0.out; omega)
  have HZSa := Aside0.mk (show Maps.size (chM M0 true xa ka (key xa)) ≤ 11 by have h_ := size_ch M0 true xa ka (key xa); have := HZS0.out; omega)
  have HZb := Aside0.mk (show Maps.size (chM M0 true xb kb (key xb)) ≤ 1000 by have h_ := size_ch M0 true xb kb (key xb); have := HZS0.out; omega)
  have HZSb := Aside0.mk (show Maps.size (chM M0 true xb kb (key xb)) ≤ 11 by have h_ := size_ch M0 true xb kb (key xb); have := HZS0.out; omega)
  have qa_0 : W1.cell? ⟨gA, 0, none⟩ = some (.bool true) := (blk_cell (blk_below BKA.out HB.out) 0).trans rfl
  have qa_1 : W1.cell? ⟨gA, 1, none⟩ = some (.int .i64 xa.f0) := (blk_cell (blk_below BKA.out HB.out) 1).trans rfl
  have qa_2 : W1.cell? ⟨gA, 2, none⟩ = some (.string xa.f1) := (blk_cell (blk_below BKA.out HB.out) 2).trans rfl
  have qa_3 : W1.cell? ⟨gA, 3, none⟩ = some (.string xa.f2) := (blk_cell (blk_below BKA.out HB.out) 3).trans rfl
  have qa_4 : W1.cell? ⟨gA, 4, none⟩ = some (.slice Aa xa.f3.length ca) := (blk_cell (blk_below BKA.out HB.out) 4).trans rfl
  have qa_5 : W1.cell? ⟨gA, 5, none⟩ = some (.string xa.f4) := (blk_cell (blk_below BKA.out HB.out) 5).trans rfl
  have qa_6 : W1.cell? ⟨gA, 6, none⟩ = some (.string xa.f5) := (blk_cell (blk_below BKA.out HB.out) 6).trans rfl
  have qa_7 : W1.cell? ⟨gA, 7, none⟩ = some (.string ka) := (blk_cell (blk_below BKA.out HB.out) 7).trans rfl
  have qb_0 : W1.cell? ⟨gB, 0, none⟩ = some (.bool true) := (blk_cell (blk_below BKB.out HB.out) 0).trans rfl
  have qb_1 : W1.cell? ⟨gB, 1, none⟩ = some (.int .i64 xb.f0) := (blk_cell (blk_below BKB.out HB.out) 1).trans rfl
  have qb_2 : W1.cell? ⟨gB, 2, none⟩ = some (.string xb.f1) := (blk_cell (blk_below BKB.out HB.out) 2).trans rfl
  have qb_3 : W1.cell? ⟨gB, 3, none⟩ = some (.string xb.f2) := (blk_cell (blk_below BKB.out HB.out) 3).trans rfl
  have qb_4 : W1.cell? ⟨gB, 4, none⟩ = some (.slice Ab xb.f3.length cb) := (blk_cell (blk_below BKB.out HB.out) 4).trans rfl
  have qb_5 : W1.cell? ⟨gB, 5, none⟩ = some (.string xb.f4) := (blk_cell (blk_below BKB.out HB.out) 5).trans rfl
  have qb_6 : W1.cell? ⟨gB, 6, none⟩ = some (.string xb.f5) := (blk_cell (blk_below BKB.out HB.out) 6).trans rfl
  have qb_7 : W1.cell? ⟨gB, 7, none⟩ = some (.string kb) := (blk_cell (blk_below BKB.out HB.out) 7).trans rfl
  go_upto_region 6 with (first | (go_at_call 4; (with_reducible refine (awake_calls _).mono ?_); rintro e wa ⟨rfl, hb_⟩; have n0_ := Aside0.mk (below_step (by repeat (first | (with_reducible first | exact HB.out | apply below_alloc | apply pw_below_drewN | apply below_drew1) | exact HB.out)) hb_); clear qa_0 qa_1 qa_2 qa_3 qa_4 qa_5 qa_6 qa_7 qb_0 qb_1 qb_2 qb_3 qb_4 qb_5 qb_6 qb_7; clear HB hb_; have HB := n0_; clear n0_; have qa_0 : wa.cell? ⟨gA, 0, none⟩ = some (.bool true) := (blk_cell (blk_below BKA.out HB.out) 0).trans rfl; have qa_1 : wa.cell? ⟨gA, 1, none⟩ = some (.int .i64 xa.f0) := (blk_cell (blk_below BKA.out HB.out) 1).trans rfl; have qa_2 : wa.cell? ⟨gA, 2, none⟩ = some (.string xa.f1) := (blk_cell (blk_below BKA.out HB.out) 2).trans rfl; have qa_3 : wa.cell? ⟨gA, 3, none⟩ = some (.string xa.f2) := (blk_cell (blk_below BKA.out HB.out) 3).trans rfl; have qa_4 : wa.cell? ⟨gA, 4, none⟩ = some (.slice Aa xa.f3.length ca) := (blk_cell (blk_below BKA.out HB.out) 4).trans rfl; have qa_5 : wa.cell? ⟨gA, 5, none⟩ = some (.string xa.f4) := (blk_cell (blk_below BKA.out HB.out) 5).trans rfl; have qa_6 : wa.cell? ⟨gA, 6, none⟩ = some (.string xa.f5) := (blk_cell (blk_below BKA.out HB.out) 6).trans rfl; have qa_7 : wa.cell? ⟨gA, 7, none⟩ = some (.string ka) := (blk_cell (blk_below BKA.out HB.out) 7).trans rfl; have qb_0 : wa.cell? ⟨gB, 0, none⟩ = some (.bool true) := (blk_cell (blk_below BKB.out HB.out) 0).trans rfl; have qb_1 : wa.cell? ⟨gB, 1, none⟩ = some (.int .i64 xb.f0) := (blk_cell (blk_below BKB.out HB.out) 1).trans rfl; have qb_2 : wa.cell? ⟨gB, 2, none⟩ = some (.string xb.f1) := (blk_cell (blk_below BKB.out HB.out) 2).trans rfl; have qb_3 : wa.cell? ⟨gB, 3, none⟩ = some (.string xb.f2) := (blk_cell (blk_below BKB.out HB.out) 3).trans rfl; have qb_4 : wa.cell? ⟨gB, 4, none⟩ = some (.slice Ab xb.f3.length cb) := (blk_cell (blk_below BKB.out HB.out) 4).trans rfl; have qb_5 : wa.cell? ⟨gB, 5, none⟩ = some (.string xb.f4) := (blk_cell (blk_below BKB.out HB.out) 5).trans rfl; have qb_6 : wa.cell? ⟨gB, 6, none⟩ = some (.string xb.f5) := (blk_cell (blk_below BKB.out HB.out) 6).trans rfl; have qb_7 : wa.cell? ⟨gB, 7, none⟩ = some (.string kb) := (blk_cell (blk_below BKB.out HB.out) 7).trans rfl) | (go_at_call 5; (with_reducible refine (monticuleref07_Few.calls k A0 c0 l 10 _ _ ?s1 HC0.out HF1.out).mono ?_); (case s1 => exact Kd.C_below HR0.out (by repeat (first | (with_reducible first | exact HB.out | apply below_alloc | apply pw_below_drewN | apply below_drew1) | exact HB.out))); rintro e wb ⟨rfl, hb_⟩; have n0_ := Aside0.mk (below_step (by repeat (first | (with_reducible first | exact HB.out | apply below_alloc | apply pw_below_drewN | apply below_drew1) | exact HB.out)) hb_); clear qa_0 qa_1 qa_2 qa_3 qa_4 qa_5 qa_6 qa_7 qb_0 qb_1 qb_2 qb_3 qb_4 qb_5 qb_6 qb_7; clear HB hb_; have HB := n0_; clear n0_; have qa_0 : wb.cell? ⟨gA, 0, none⟩ = some (.bool true) := (blk_cell (blk_below BKA.out HB.out) 0).trans rfl; have qa_1 : wb.cell? ⟨gA, 1, none⟩ = some (.int .i64 xa.f0) := (blk_cell (blk_below BKA.out HB.out) 1).trans rfl; have qa_2 : wb.cell? ⟨gA, 2, none⟩ = some (.string xa.f1) := (blk_cell (blk_below BKA.out HB.out) 2).trans rfl; have qa_3 : wb.cell? ⟨gA, 3, none⟩ = some (.string xa.f2) := (blk_cell (blk_below BKA.out HB.out) 3).trans rfl; have qa_4 : wb.cell? ⟨gA, 4, none⟩ = some (.slice Aa xa.f3.length ca) := (blk_cell (blk_below BKA.out HB.out) 4).trans rfl; have qa_5 : wb.cell? ⟨gA, 5, none⟩ = some (.string xa.f4) := (blk_cell (blk_below BKA.out HB.out) 5).trans rfl; have qa_6 : wb.cell? ⟨gA, 6, none⟩ = some (.string xa.f5) := (blk_cell (blk_below BKA.out HB.out) 6).trans rfl; have qa_7 : wb.cell? ⟨gA, 7, none⟩ = some (.string ka) := (blk_cell (blk_below BKA.out HB.out) 7).trans rfl; have qb_0 : wb.cell? ⟨gB, 0, none⟩ = some (.bool true) := (blk_cell (blk_below BKB.out HB.out) 0).trans rfl; have qb_1 : wb.cell? ⟨gB, 1, none⟩ = some (.int .i64 xb.f0) := (blk_cell (blk_below BKB.out HB.out) 1).trans rfl; have qb_2 : wb.cell? ⟨gB, 2, none⟩ = some (.string xb.f1) := (blk_cell (blk_below BKB.out HB.out) 2).trans rfl; have qb_3 : wb.cell? ⟨gB, 3, none⟩ = some (.string xb.f2) := (blk_cell (blk_below BKB.out HB.out) 3).trans rfl; have qb_4 : wb.cell? ⟨gB, 4, none⟩ = some (.slice Ab xb.f3.length cb) := (blk_cell (blk_below BKB.out HB.out) 4).trans rfl; have qb_5 : wb.cell? ⟨gB, 5, none⟩ = some (.string xb.f4) := (blk_cell (blk_below BKB.out HB.out) 5).trans rfl; have qb_6 : wb.cell? ⟨gB, 6, none⟩ = some (.string xb.f5) := (blk_cell (blk_below BKB.out HB.out) 6).trans rfl; have qb_7 : wb.cell? ⟨gB, 7, none⟩ = some (.string kb) := (blk_cell (blk_below BKB.out HB.out) 7).trans rfl) | (go_at_call 6; (with_reducible refine (monticuleref07_Small.calls k xa.f0 xa.f1 xa.f2 Aa ca xa.f3 xa.f4 xa.f5 _ _ ?s1 HLa.out HF2.out).mono ?_); (case s1 => exact Kd.C_below HCa.out (by repeat (first | (with_reducible first | exact HB.out | apply below_alloc | apply pw_below_drewN | apply below_drew1) | exact HB.out))); rintro e wsa ⟨rfl, hb_⟩; have n0_ := Aside0.mk (below_step (by repeat (first | (with_reducible first | exact HB.out | apply below_alloc | apply pw_below_drewN | apply below_drew1) | exact HB.out)) hb_); clear qa_0 qa_1 qa_2 qa_3 qa_4 qa_5 qa_6 qa_7 qb_0 qb_1 qb_2 qb_3 qb_4 qb_5 qb_6 qb_7; clear HB hb_; have HB := n0_; clear n0_; have qa_0 : wsa.cell? ⟨gA, 0, none⟩ = some (.bool true) := (blk_cell (blk_below BKA.out HB.out) 0).trans rfl; have qa_1 : wsa.cell? ⟨gA, 1, none⟩ = some (.int .i64 xa.f0) := (blk_cell (blk_below BKA.out HB.out) 1).trans rfl; have qa_2 : wsa.cell? ⟨gA, 2, none⟩ = some (.string xa.f1) := (blk_cell (blk_below BKA.out HB.out) 2).trans rfl; have qa_3 : wsa.cell? ⟨gA, 3, none⟩ = some (.string xa.f2) := (blk_cell (blk_below BKA.out HB.out) 3).trans rfl; have qa_4 : wsa.cell? ⟨gA, 4, none⟩ = some (.slice Aa xa.f3.length ca) := (blk_cell (blk_below BKA.out HB.out) 4).trans rfl; have qa_5 : wsa.cell? ⟨gA, 5, none⟩ = some (.string xa.f4) := (blk_cell (blk_below BKA.out HB.out) 5).trans rfl; have qa_6 : wsa.cell? ⟨gA, 6, none⟩ = some (.string xa.f5) := (blk_cell (blk_below BKA.out HB.out) 6).trans rfl; have qa_7 : wsa.cell? ⟨gA, 7, none⟩ = some (.string ka) := (blk_cell (blk_below BKA.out HB.out) 7).trans rfl; have qb_0 : wsa.cell? ⟨gB, 0, none⟩ = some (.bool true) := (blk_cell (blk_below BKB.out HB.out) 0).trans rfl; have qb_1 : wsa.cell? ⟨gB, 1, none⟩ = some (.int .i64 xb.f0) := (blk_cell (blk_below BKB.out HB.out) 1).trans rfl; have qb_2 : wsa.cell? ⟨gB, 2, none⟩ = some (.string xb.f1) := (blk_cell (blk_below BKB.out HB.out) 2).trans rfl; have qb_3 : wsa.cell? ⟨gB, 3, none⟩ = some (.string xb.f2) := (blk_cell (blk_below BKB.out HB.out) 3).trans rfl; have qb_4 : wsa.cell? ⟨gB, 4, none⟩ = some (.slice Ab xb.f3.length cb) := (blk_cell (blk_below BKB.out HB.out) 4).trans rfl; have qb_5 : wsa.cell? ⟨gB, 5, none⟩ = some (.string xb.f4) := (blk_cell (blk_below BKB.out HB.out) 5).trans rfl; have qb_6 : wsa.cell? ⟨gB, 6, none⟩ = some (.string xb.f5) := (blk_cell (blk_below BKB.out HB.out) 6).trans rfl; have qb_7 : wsa.cell? ⟨gB, 7, none⟩ = some (.string kb) := (blk_cell (blk_below BKB.out HB.out) 7).trans rfl) | (go_at_call 6; (with_reducible refine (monticuleref07_Small.calls k xb.f0 xb.f1 xb.f2 Ab cb xb.f3 xb.f4 xb.f5 _ _ ?s1 HLb.out HF3.out).mono ?_); (case s1 => exact Kd.C_below HCb.out (by repeat (first | (with_reducible first | exact HB.out | apply below_alloc | apply pw_below_drewN | apply below_drew1) | exact HB.out))); rintro e wsb ⟨rfl, hb_⟩; have n0_ := Aside0.mk (below_step (by repeat (first | (with_reducible first | exact HB.out | apply below_alloc | apply pw_below_drewN | apply below_drew1) | exact HB.out)) hb_); clear qa_0 qa_1 qa_2 qa_3 qa_4 qa_5 qa_6 qa_7 qb_0 qb_1 qb_2 qb_3 qb_4 qb_5 qb_6 qb_7; clear HB hb_; have HB := n0_; clear n0_; have qa_0 : wsb.cell? ⟨gA, 0, none⟩ = some (.bool true) := (blk_cell (blk_below BKA.out HB.out) 0).trans rfl; have qa_1 : wsb.cell? ⟨gA, 1, none⟩ = some (.int .i64 xa.f0) := (blk_cell (blk_below BKA.out HB.out) 1).trans rfl; have qa_2 : wsb.cell? ⟨gA, 2, none⟩ = some (.string xa.f1) := (blk_cell (blk_below BKA.out HB.out) 2).trans rfl; have qa_3 : wsb.cell? ⟨gA, 3, none⟩ = some (.string xa.f2) := (blk_cell (blk_below BKA.out HB.out) 3).trans rfl; have qa_4 : wsb.cell? ⟨gA, 4, none⟩ = some (.slice Aa xa.f3.length ca) := (blk_cell (blk_below BKA.out HB.out) 4).trans rfl; have qa_5 : wsb.cell? ⟨gA, 5, none⟩ = some (.string xa.f4) := (blk_cell (blk_below BKA.out HB.out) 5).trans rfl; have qa_6 : wsb.cell? ⟨gA, 6, none⟩ = some (.string xa.f5) := (blk_cell (blk_below BKA.out HB.out) 6).trans rfl; have qa_7 : wsb.cell? ⟨gA, 7, none⟩ = some (.string ka) := (blk_cell (blk_below BKA.out HB.out) 7).trans rfl; have qb_0 : wsb.cell? ⟨gB, 0, none⟩ = some (.bool true) := (blk_cell (blk_below BKB.out HB.out) 0).trans rfl; have qb_1 : wsb.cell? ⟨gB, 1, none⟩ = some (.int .i64 xb.f0) := (blk_cell (blk_below BKB.out HB.out) 1).trans rfl; have qb_2 : wsb.cell? ⟨gB, 2, none⟩ = some (.string xb.f1) := (blk_cell (blk_below BKB.out HB.out) 2).trans rfl; have qb_3 : wsb.cell? ⟨gB, 3, none⟩ = some (.string xb.f2) := (blk_cell (blk_below BKB.out HB.out) 3).trans rfl; have qb_4 : wsb.cell? ⟨gB, 4, none⟩ = some (.slice Ab xb.f3.length cb) := (blk_cell (blk_below BKB.out HB.out) 4).trans rfl; have qb_5 : wsb.cell? ⟨gB, 5, none⟩ = some (.string xb.f4) := (blk_cell (blk_below BKB.out HB.out) 5).trans rfl; have qb_6 : wsb.cell? ⟨gB, 6, none⟩ = some (.string xb.f5) := (blk_cell (blk_below BKB.out HB.out) 6).trans rfl; have qb_7 : wsb.cell? ⟨gB, 7, none⟩ = some (.string kb) := (blk_cell (blk_below BKB.out HB.out) 7).trans rfl) | (go_at_call 7; (with_reducible refine (new_good key k A0 c0 l _ M0 (Kd.C_below HR0.out (by repeat (first | (with_reducible first | exact HB.out | apply below_alloc | apply pw_below_drewN | apply below_drew1) | exact HB.out))) HC0.out HLN.out HKEY.out HNG.out).mono ?_); rintro e w3 ⟨gs, b_, rfl, hs_, _, hb_⟩; have HSN := Aside0.mk (show Sn w3 (.pointer (some ⟨gs, 0, none⟩)) M0 from Or.inr hs_.rd); have n0_ := Aside0.mk (below_step (by repeat (first | (with_reducible first | exact HB.out | apply below_alloc | apply pw_below_drewN | apply below_drew1) | exact HB.out)) hb_); clear qa_0 qa_1 qa_2 qa_3 qa_4 qa_5 qa_6 qa_7 qb_0 qb_1 qb_2 qb_3 qb_4 qb_5 qb_6 qb_7; clear HB hb_; have HB := n0_; clear n0_; have qa_0 : w3.cell? ⟨gA, 0, none⟩ = some (.bool true) := (blk_cell (blk_below BKA.out HB.out) 0).trans rfl; have qa_1 : w3.cell? ⟨gA, 1, none⟩ = some (.int .i64 xa.f0) := (blk_cell (blk_below BKA.out HB.out) 1).trans rfl; have qa_2 : w3.cell? ⟨gA, 2, none⟩ = some (.string xa.f1) := (blk_cell (blk_below BKA.out HB.out) 2).trans rfl; have qa_3 : w3.cell? ⟨gA, 3, none⟩ = some (.string xa.f2) := (blk_cell (blk_below BKA.out HB.out) 3).trans rfl; have qa_4 : w3.cell? ⟨gA, 4, none⟩ = some (.slice Aa xa.f3.length ca) := (blk_cell (blk_below BKA.out HB.out) 4).trans rfl; have qa_5 : w3.cell? ⟨gA, 5, none⟩ = some (.string xa.f4) := (blk_cell (blk_below BKA.out HB.out) 5).trans rfl; have qa_6 : w3.cell? ⟨gA, 6, none⟩ = some (.string xa.f5) := (blk_cell (blk_below BKA.out HB.out) 6).trans rfl; have qa_7 : w3.cell? ⟨gA, 7, none⟩ = some (.string ka) := (blk_cell (blk_below BKA.out HB.out) 7).trans rfl; have qb_0 : w3.cell? ⟨gB, 0, none⟩ = some (.bool true) := (blk_cell (blk_below BKB.out HB.out) 0).trans rfl; have qb_1 : w3.cell? ⟨gB, 1, none⟩ = some (.int .i64 xb.f0) := (blk_cell (blk_below BKB.out HB.out) 1).trans rfl; have qb_2 : w3.cell? ⟨gB, 2, none⟩ = some (.string xb.f1) := (blk_cell (blk_below BKB.out HB.out) 2).trans rfl; have qb_3 : w3.cell? ⟨gB, 3, none⟩ = some (.string xb.f2) := (blk_cell (blk_below BKB.out HB.out) 3).trans rfl; have qb_4 : w3.cell? ⟨gB, 4, none⟩ = some (.slice Ab xb.f3.length cb) := (blk_cell (blk_below BKB.out HB.out) 4).trans rfl; have qb_5 : w3.cell? ⟨gB, 5, none⟩ = some (.string xb.f4) := (blk_cell (blk_below BKB.out HB.out) 5).trans rfl; have qb_6 : w3.cell? ⟨gB, 6, none⟩ = some (.string xb.f5) := (blk_cell (blk_below BKB.out HB.out) 6).trans rfl; have qb_7 : w3.cell? ⟨gB, 7, none⟩ = some (.string kb) := (blk_cell (blk_below BKB.out HB.out) 7).trans rfl; clear hs_))
  have n0_ := Aside0.mk (below_drew1 HB.out)
  have n1_ := Aside0.mk (HSN.out.below (below_drew1 (Below.refl _ w3)))
  clear qa_0 qa_1 qa_2 qa_3 qa_4 qa_5 qa_6 qa_7 qb_0 qb_1 qb_2 qb_3 qb_4 qb_5 qb_6 qb_7
  clear HB HSN
  have HB := n0_
  have HSN := n1_
  clear n0_ n1_
  have qa_0 : w3.drew.cell? ⟨gA, 0, none⟩ = some (.bool true) := (blk_cell (blk_below BKA.out HB.out) 0).trans rfl
  have qa_1 : w3.drew.cell? ⟨gA, 1, none⟩ = some (.int .i64 xa.f0) := (blk_cell (blk_below BKA.out HB.out) 1).trans rfl
  have qa_2 : w3.drew.cell? ⟨gA, 2, none⟩ = some (.string xa.f1) := (blk_cell (blk_below BKA.out HB.out) 2).trans rfl
  have qa_3 : w3.drew.cell? ⟨gA, 3, none⟩ = some (.string xa.f2) := (blk_cell (blk_below BKA.out HB.out) 3).trans rfl
  have qa_4 : w3.drew.cell? ⟨gA, 4, none⟩ = some (.slice Aa xa.f3.length ca) := (blk_cell (blk_below BKA.out HB.out) 4).trans rfl
  have qa_5 : w3.drew.cell? ⟨gA, 5, none⟩ = some (.string xa.f4) := (blk_cell (blk_below BKA.out HB.out) 5).trans rfl
  have qa_6 : w3.drew.cell? ⟨gA, 6, none⟩ = some (.string xa.f5) := (blk_cell (blk_below BKA.out HB.out) 6).trans rfl
  have qa_7 : w3.drew.cell? ⟨gA, 7, none⟩ = some (.string ka) := (blk_cell (blk_below BKA.out HB.out) 7).trans rfl
  have qb_0 : w3.drew.cell? ⟨gB, 0, none⟩ = some (.bool true) := (blk_cell (blk_below BKB.out HB.out) 0).trans rfl
  have qb_1 : w3.drew.cell? ⟨gB, 1, none⟩ = some (.int .i64 xb.f0) := (blk_cell (blk_below BKB.out HB.out) 1).trans rfl
  have qb_2 : w3.drew.cell? ⟨gB, 2, none⟩ = some (.string xb.f1) := (blk_cell (blk_below BKB.out HB.out) 2).trans rfl
  have qb_3 : w3.drew.cell? ⟨gB, 3, none⟩ = some (.string xb.f2) := (blk_cell (blk_below BKB.out HB.out) 3).trans rfl
  have qb_4 : w3.drew.cell? ⟨gB, 4, none⟩ = some (.slice Ab xb.f3.length cb) := (blk_cell (blk_below BKB.out HB.out) 4).trans rfl
  have qb_5 : w3.drew.cell? ⟨gB, 5, none⟩ = some (.string xb.f4) := (blk_cell (blk_below BKB.out HB.out) 5).trans rfl
  have qb_6 : w3.drew.cell? ⟨gB, 6, none⟩ = some (.string xb.f5) := (blk_cell (blk_below BKB.out HB.out) 6).trans rfl
  have qb_7 : w3.drew.cell? ⟨gB, 7, none⟩ = some (.string kb) := (blk_cell (blk_below BKB.out HB.out) 7).trans rfl
  refine start_ (n := 6) (S := fun w' => w'.cell? ⟨gA, 7, none⟩ = some (.string ka) ∧ w'.cell? ⟨gB, 7, none⟩ = some (.string kb)) (ds := []) #[false, false, false, false, false, false] (by kernel_rfl) rfl rfl ⟨qa_7, qb_7⟩ (fun hHeld => ?_); refine with_tabW snapordSj.tab6 snapordSj.bits6 (fun HT_ HW_ => ?_)
  refine pure_ (i := 0) (N := some 74) (v := ?_) (a' := ?_) #[true, false, false, false, false, false] rfl rfl (any_of HT_.out (by kernel_rfl)) (fun _ _ _ h => h) (Or.inl ⟨by rfl, ?_⟩) ?_ ?_
  rotate_left
  · intro w'
    go_simp
    with_reducible rfl
  rotate_left
  · simp only [Act.put, List.setIfInBounds_toArray, List.set_cons_zero, List.set_cons_succ, i64_w, i32_w]
    rfl
  refine take_ (i := 1) (N := some 75) (v := ?_) (a' := ?_) #[true, true, false, false, false, false] rfl rfl (take_ofW HT_.out HW_.out (by kernel_rfl)) (fun _ _ _ h => h) (Or.inl ⟨by rfl, ?_⟩) hHeld ?_ ?_
  rotate_left
  · rintro w' ⟨s0, s1⟩
    go_simp
    with_reducible rfl
  rotate_left
  · simp only [Act.put, List.setIfInBounds_toArray, List.set_cons_zero, List.set_cons_succ, i64_w, i32_w]
    rfl
  refine pure_ (i := 2) (N := some 76) (v := ?_) (a' := ?_) #[true, true, true, false, false, false] rfl rfl (any_of HT_.out (by kernel_rfl)) (fun _ _ _ h => h) (Or.inl ⟨by rfl, ?_⟩) ?_ ?_
  rotate_left
  · intro w'
    go_simp
    with_reducible rfl
  rotate_left
  · simp only [Act.put, List.setIfInBounds_toArray, List.set_cons_zero, List.set_cons_succ, i64_w, i32_w]
    rfl
  refine take_ (i := 3) (N := some 77) (v := ?_) (a' := ?_) #[true, true, true, true, false, false] rfl rfl (take_ofW HT_.out HW_.out (by kernel_rfl)) (fun _ _ _ h => h) (Or.inl ⟨by rfl, ?_⟩) hHeld ?_ ?_
  rotate_left
  · rintro w' ⟨s0, s1⟩
    go_simp
    with_reducible rfl
  rotate_left
  · simp only [Act.put, List.setIfInBounds_toArray, List.set_cons_zero, List.set_cons_succ, i64_w, i32_w]
    rfl
  refine pure_ (i := 4) (N := some 9) (v := ?_) (a' := ?_) #[true, true, true, true, true, false] rfl rfl (any_of HT_.out (by kernel_rfl)) (fun _ _ _ h => h) (Or.inl ⟨by rfl, ?_⟩) ?_ ?_
  rotate_left
  · intro w'
    go_simp
    with_reducible rfl
  rotate_left
  · simp only [Act.put, List.setIfInBounds_toArray, List.set_cons_zero, List.set_cons_succ, i64_w, i32_w]
    rfl
  refine pure_ (i := 5) (N := some 10) (v := ?_) (a' := ?_) #[true, true, true, true, true, true] rfl rfl (any_of HT_.out (by kernel_rfl)) (fun _ _ _ h => h) (Or.inl ⟨by rfl, ?_⟩) ?_ ?_
  rotate_left
  · intro w'
    go_simp
    with_reducible rfl
  rotate_left
  · simp only [Act.put, List.setIfInBounds_toArray, List.set_cons_zero, List.set_cons_succ, i64_w, i32_w]
    rfl
  refine done_ (done_of HT_.out (by kernel_rfl)) ?_
  clear qa_0 qa_1 qa_2 qa_3 qa_4 qa_5 qa_6 qa_7 qb_0 qb_1 qb_2 qb_3 qb_4 qb_5 qb_6 qb_7
  generalize w3.drew = W6 at HB HSN ⊢
  have qa_0 : W6.cell? ⟨gA, 0, none⟩ = some (.bool true) := (blk_cell (blk_below BKA.out HB.out) 0).trans rfl
  have qa_1 : W6.cell? ⟨gA, 1, none⟩ = some (.int .i64 xa.f0) := (blk_cell (blk_below BKA.out HB.out) 1).trans rfl
  have qa_2 : W6.cell? ⟨gA, 2, none⟩ = some (.string xa.f1) := (blk_cell (blk_below BKA.out HB.out) 2).trans rfl
  have qa_3 : W6.cell? ⟨gA, 3, none⟩ = some (.string xa.f2) := (blk_cell (blk_below BKA.out HB.out) 3).trans rfl
  have qa_4 : W6.cell? ⟨gA, 4, none⟩ = some (.slice Aa xa.f3.length ca) := (blk_cell (blk_below BKA.out HB.out) 4).trans rfl
  have qa_5 : W6.cell? ⟨gA, 5, none⟩ = some (.string xa.f4) := (blk_cell (blk_below BKA.out HB.out) 5).trans rfl
  have qa_6 : W6.cell? ⟨gA, 6, none⟩ = some (.string xa.f5) := (blk_cell (blk_below BKA.out HB.out) 6).trans rfl
  have qa_7 : W6.cell? ⟨gA, 7, none⟩ = some (.string ka) := (blk_cell (blk_below BKA.out HB.out) 7).trans rfl
  have qb_0 : W6.cell? ⟨gB, 0, none⟩ = some (.bool true) := (blk_cell (blk_below BKB.out HB.out) 0).trans rfl
  have qb_1 : W6.cell? ⟨gB, 1, none⟩ = some (.int .i64 xb.f0) := (blk_cell (blk_below BKB.out HB.out) 1).trans rfl
  have qb_2 : W6.cell? ⟨gB, 2, none⟩ = some (.string xb.f1) := (blk_cell (blk_below BKB.out HB.out) 2).trans rfl
  have qb_3 : W6.cell? ⟨gB, 3, none⟩ = some (.string xb.f2) := (blk_cell (blk_below BKB.out HB.out) 3).trans rfl
  have qb_4 : W6.cell? ⟨gB, 4, none⟩ = some (.slice Ab xb.f3.length cb) := (blk_cell (blk_below BKB.out HB.out) 4).trans rfl
  have qb_5 : W6.cell? ⟨gB, 5, none⟩ = some (.string xb.f4) := (blk_cell (blk_below BKB.out HB.out) 5).trans rfl
  have qb_6 : W6.cell? ⟨gB, 6, none⟩ = some (.string xb.f5) := (blk_cell (blk_below BKB.out HB.out) 6).trans rfl
  have qb_7 : W6.cell? ⟨gB, 7, none⟩ = some (.string kb) := (blk_cell (blk_below BKB.out HB.out) 7).trans rfl
  by_cases hxy : ka.toList = kb.toList
  · have z1 : (ka.toList == kb.toList) = true := beq_iff_eq.mpr hxy
    clear hxy
    go_wp2_with (first | fail)
    go_ret
    exact ⟨rfl, below_step HBW.out (by repeat (first | (with_reducible first | exact HB.out | apply below_alloc | apply pw_below_drewN | apply below_drew1) | exact HB.out))⟩
  · have z1 : (ka.toList == kb.toList) = false := beq_eq_false_iff_ne.mpr hxy
    have HXY := Aside0.mk (show ka ≠ kb from fun h_ => hxy (by rw [h_]))
    clear hxy
    go_upto_region 13 with (first | fail)
    have n0_ := Aside0.mk (below_drew1 HB.out)
    have n1_ := Aside0.mk (HSN.out.below (below_drew1 (Below.refl _ W6)))
    clear qa_0 qa_1 qa_2 qa_3 qa_4 qa_5 qa_6 qa_7 qb_0 qb_1 qb_2 qb_3 qb_4 qb_5 qb_6 qb_7
    clear HB HSN
    have HB := n0_
    have HSN := n1_
    clear n0_ n1_
    have qa_0 : W6.drew.cell? ⟨gA, 0, none⟩ = some (.bool true) := (blk_cell (blk_below BKA.out HB.out) 0).trans rfl
    have qa_1 : W6.drew.cell? ⟨gA, 1, none⟩ = some (.int .i64 xa.f0) := (blk_cell (blk_below BKA.out HB.out) 1).trans rfl
    have qa_2 : W6.drew.cell? ⟨gA, 2, none⟩ = some (.string xa.f1) := (blk_cell (blk_below BKA.out HB.out) 2).trans rfl
    have qa_3 : W6.drew.cell? ⟨gA, 3, none⟩ = some (.string xa.f2) := (blk_cell (blk_below BKA.out HB.out) 3).trans rfl
    have qa_4 : W6.drew.cell? ⟨gA, 4, none⟩ = some (.slice Aa xa.f3.length ca) := (blk_cell (blk_below BKA.out HB.out) 4).trans rfl
    have qa_5 : W6.drew.cell? ⟨gA, 5, none⟩ = some (.string xa.f4) := (blk_cell (blk_below BKA.out HB.out) 5).trans rfl
    have qa_6 : W6.drew.cell? ⟨gA, 6, none⟩ = some (.string xa.f5) := (blk_cell (blk_below BKA.out HB.out) 6).trans rfl
    have qa_7 : W6.drew.cell? ⟨gA, 7, none⟩ = some (.string ka) := (blk_cell (blk_below BKA.out HB.out) 7).trans rfl
    have qb_0 : W6.drew.cell? ⟨gB, 0, none⟩ = some (.bool true) := (blk_cell (blk_below BKB.out HB.out) 0).trans rfl
    have qb_1 : W6.drew.cell? ⟨gB, 1, none⟩ = some (.int .i64 xb.f0) := (blk_cell (blk_below BKB.out HB.out) 1).trans rfl
    have qb_2 : W6.drew.cell? ⟨gB, 2, none⟩ = some (.string xb.f1) := (blk_cell (blk_below BKB.out HB.out) 2).trans rfl
    have qb_3 : W6.drew.cell? ⟨gB, 3, none⟩ = some (.string xb.f2) := (blk_cell (blk_below BKB.out HB.out) 3).trans rfl
    have qb_4 : W6.drew.cell? ⟨gB, 4, none⟩ = some (.slice Ab xb.f3.length cb) := (blk_cell (blk_below BKB.out HB.out) 4).trans rfl
    have qb_5 : W6.drew.cell? ⟨gB, 5, none⟩ = some (.string xb.f4) := (blk_cell (blk_below BKB.out HB.out) 5).trans rfl
    have qb_6 : W6.drew.cell? ⟨gB, 6, none⟩ = some (.string xb.f5) := (blk_cell (blk_below BKB.out HB.out) 6).trans rfl
    have qb_7 : W6.drew.cell? ⟨gB, 7, none⟩ = some (.string kb) := (blk_cell (blk_below BKB.out HB.out) 7).trans rfl
    refine start_ (n := 12) (S := fun w' => w'.cell? ⟨gA, 0, none⟩ = some (.bool true) ∧ w'.cell? ⟨gA, 1, none⟩ = some (.int .i64 xa.f0) ∧ w'.cell? ⟨gA, 2, none⟩ = some (.string xa.f1) ∧ w'.cell? ⟨gA, 3, none⟩ = some (.string xa.f2) ∧ w'.cell? ⟨gA, 4, none⟩ = some (.slice Aa xa.f3.length ca) ∧ w'.cell? ⟨gA, 5, none⟩ = some (.string xa.f4) ∧ w'.cell? ⟨gA, 6, none⟩ = some (.string xa.f5) ∧ w'.cell? ⟨gA, 7, none⟩ = some (.string ka) ∧ w'.cell? ⟨gB, 0, none⟩ = some (.bool true) ∧ w'.cell? ⟨gB, 1, none⟩ = some (.int .i64 xb.f0) ∧ w'.cell? ⟨gB, 2, none⟩ = some (.string xb.f1) ∧ w'.cell? ⟨gB, 3, none⟩ = some (.string xb.f2) ∧ w'.cell? ⟨gB, 4, none⟩ = some (.slice Ab xb.f3.length cb) ∧ w'.cell? ⟨gB, 5, none⟩ = some (.string xb.f4) ∧ w'.cell? ⟨gB, 6, none⟩ = some (.string xb.f5) ∧ w'.cell? ⟨gB, 7, none⟩ = some (.string kb)) (ds := []) #[false, false, false, false, false, false, false, false, false, false, false, false] (by kernel_rfl) rfl rfl ⟨qa_0, qa_1, qa_2, qa_3, qa_4, qa_5, qa_6, qa_7, qb_0, qb_1, qb_2, qb_3, qb_4, qb_5, qb_6, qb_7⟩ (fun hHeld => ?_); refine with_tabW snapordSj.tab13 snapordSj.bits13 (fun HT_ HW_ => ?_)
    refine pure_ (i := 0) (N := some 93) (v := ?_) (a' := ?_) #[true, false, false, false, false, false, false, false, false, false, false, false] rfl rfl (any_of HT_.out (by kernel_rfl)) (fun _ _ _ h => h) (Or.inl ⟨by rfl, ?_⟩) ?_ ?_
    rotate_left
    · intro w'
      go_simp
      with_reducible rfl
    rotate_left
    · simp only [Act.put, List.setIfInBounds_toArray, List.set_cons_zero, List.set_cons_succ, i64_w, i32_w]
      rfl
    refine take_ (i := 1) (N := some 94) (v := ?_) (a' := ?_) #[true, true, false, false, false, false, false, false, false, false, false, false] rfl rfl (take_ofW HT_.out HW_.out (by kernel_rfl)) (fun _ _ _ h => h) (Or.inl ⟨by rfl, ?_⟩) hHeld ?_ ?_
    rotate_left
    · rintro w' ⟨s0, s1, s2, s3, s4, s5, s6, s7, s8, s9, s10, s11, s12, s13, s14, s15⟩
      go_simp
      with_reducible rfl
    rotate_left
    · simp only [Act.put, List.setIfInBounds_toArray, List.set_cons_zero, List.set_cons_succ, i64_w, i32_w]
      rfl
    refine take_ (i := 3) (N := some 96) (v := ?_) (a' := ?_) #[true, true, false, true, false, false, false, false, false, false, false, false] rfl rfl (take_ofW HT_.out HW_.out (by kernel_rfl)) (fun _ _ _ h => h) (Or.inl ⟨by rfl, ?_⟩) hHeld ?_ ?_
    rotate_left
    · rintro w' ⟨s0, s1, s2, s3, s4, s5, s6, s7, s8, s9, s10, s11, s12, s13, s14, s15⟩
      go_simp
      with_reducible rfl
    rotate_left
    · simp only [Act.put, List.setIfInBounds_toArray, List.set_cons_zero, List.set_cons_succ, i64_w, i32_w]
      rfl
    refine pure_ (i := 5) (N := some 98) (v := ?_) (a' := ?_) #[true, true, false, true, false, true, false, false, false, false, false, false] rfl rfl (any_of HT_.out (by kernel_rfl)) (fun _ _ _ h => h) (Or.inl ⟨by rfl, ?_⟩) ?_ ?_
    rotate_left
    · intro w'
      go_simp
      with_reducible rfl
    rotate_left
    · simp only [Act.put, List.setIfInBounds_toArray, List.set_cons_zero, List.set_cons_succ, i64_w, i32_w]
      rfl
    refine take_ (i := 6) (N := some 99) (v := ?_) (a' := ?_) #[true, true, false, true, false, true, true, false, false, false, false, false] rfl rfl (take_ofW HT_.out HW_.out (by kernel_rfl)) (fun _ _ _ h => h) (Or.inl ⟨by rfl, ?_⟩) hHeld ?_ ?_
    rotate_left
    · rintro w' ⟨s0, s1, s2, s3, s4, s5, s6, s7, s8, s9, s10, s11, s12, s13, s14, s15⟩
      go_simp
      with_reducible rfl
    rotate_left
    · simp only [Act.put, List.setIfInBounds_toArray, List.set_cons_zero, List.set_cons_succ, i64_w, i32_w]
      rfl
    refine take_ (i := 8) (N := some 101) (v := ?_) (a' := ?_) #[true, true, false, true, false, true, true, false, true, false, false, false] rfl rfl (take_ofW HT_.out HW_.out (by kernel_rfl)) (fun _ _ _ h => h) (Or.inl ⟨by rfl, ?_⟩) hHeld ?_ ?_
    rotate_left
    · rintro w' ⟨s0, s1, s2, s3, s4, s5, s6, s7, s8, s9, s10, s11, s12, s13, s14, s15⟩
      go_simp
      with_reducible rfl
    rotate_left
    · simp only [Act.put, List.setIfInBounds_toArray, List.set_cons_zero, List.set_cons_succ, i64_w, i32_w]
      rfl
    refine one_ (i := 2) (N := some 95) #[true, true, true, true, false, true, true, false, true, false, false, false] rfl rfl (one_of HT_.out (by kernel_rfl)) (by decide) (fun K hK => ?_)
    refine goes_ Tryd.func10 (by kernel_rfl) rfl #[.pointer (some ⟨gs, 0, none⟩), .agg #[.bool true, .int .i64 xa.f0, .string xa.f1, .string xa.f2, .slice Aa xa.f3.length ca, .string xa.f4, .string xa.f5, .string ka]] (by rfl) rfl rfl (by (try simp only [List.map_toArray, List.map_cons, List.map_nil]); first | done | rfl | (simp only [List.length_drop, List.length_take]; rfl)) ?_
    with_reducible refine (changed_drop _ (.pointer (some ⟨gs, 0, none⟩)) M0 xa Aa ca ka HSN.out HZ0.out HKZa.out).mono ?_
    rintro er w8 ⟨v8, rfl, hs8, hb_⟩
    have n0_ := Aside0.mk (below_step (by repeat (first | (with_reducible first | exact HB.out | apply below_alloc | apply pw_below_drewN | apply below_drew1) | exact HB.out)) hb_)
    have HS8 := Aside0.mk (show Sn w8 v8 (chM M0 true xa ka (key xa)) from Or.inr hs8.rd)
    have HS0 := Aside0.mk (HSN.out.below hb_)
    clear HSN hs8 hb_
    clear HB
    have HB := n0_
    clear n0_
    refine ⟨_, rfl, ?_⟩
    refine hK.out _ _ ⟨((blk_cell (blk_below BKA.out HB.out) 0).trans rfl), ((blk_cell (blk_below BKA.out HB.out) 1).trans rfl), ((blk_cell (blk_below BKA.out HB.out) 2).trans rfl), ((blk_cell (blk_below BKA.out HB.out) 3).trans rfl), ((blk_cell (blk_below BKA.out HB.out) 4).trans rfl), ((blk_cell (blk_below BKA.out HB.out) 5).trans rfl), ((blk_cell (blk_below BKA.out HB.out) 6).trans rfl), ((blk_cell (blk_below BKA.out HB.out) 7).trans rfl), ((blk_cell (blk_below BKB.out HB.out) 0).trans rfl), ((blk_cell (blk_below BKB.out HB.out) 1).trans rfl), ((blk_cell (blk_below BKB.out HB.out) 2).trans rfl), ((blk_cell (blk_below BKB.out HB.out) 3).trans rfl), ((blk_cell (blk_below BKB.out HB.out) 4).trans rfl), ((blk_cell (blk_below BKB.out HB.out) 5).trans rfl), ((blk_cell (blk_below BKB.out HB.out) 6).trans rfl), ((blk_cell (blk_below BKB.out HB.out) 7).trans rfl)⟩ (fun hHeld => ?_)
    clear hK K
    refine norm_ (a' := ?_) ?_ ?_
    rotate_left
    · show Act.put _ (some 95) _ = _
      simp only [Act.put, List.setIfInBounds_toArray, List.set_cons_zero, List.set_cons_succ, i64_w, i32_w]
      rfl
    refine one_ (i := 4) (N := some 97) #[true, true, true, true, true, true, true, false, true, false, false, false] rfl rfl (one_of HT_.out (by kernel_rfl)) (by decide) (fun K hK => ?_)
    refine goes_ Tryd.func10 (by kernel_rfl) rfl #[v8, .agg #[.bool true, .int .i64 xb.f0, .string xb.f1, .string xb.f2, .slice Ab xb.f3.length cb, .string xb.f4, .string xb.f5, .string kb]] (by rfl) rfl rfl (by (try simp only [List.map_toArray, List.map_cons, List.map_nil]); first | done | rfl | (simp only [List.length_drop, List.length_take]; rfl)) ?_
    with_reducible refine (changed_drop _ v8 (chM M0 true xa ka (key xa)) xb Ab cb kb HS8.out HZa.out HKZb.out).mono ?_
    rintro er w9 ⟨v9, rfl, hs9, hb_⟩
    have n0_ := Aside0.mk (below_step (by repeat (first | (with_reducible first | exact HB.out | apply below_alloc | apply pw_below_drewN | apply below_drew1) | exact HB.out)) hb_)
    have HT9 := Aside0.mk (show SnR w9 v9 (chM (chM M0 true xa ka (key xa)) true xb kb (key xb)) from hs9.rd)
    have n1_ := Aside0.mk (HS0.out.below hb_)
    clear HS0 HS8 hs9 hb_
    have HS0 := n1_
    clear n1_
    clear HB
    have HB := n0_
    clear n0_
    refine ⟨_, rfl, ?_⟩
    refine hK.out _ _ ⟨((blk_cell (blk_below BKA.out HB.out) 0).trans rfl), ((blk_cell (blk_below BKA.out HB.out) 1).trans rfl), ((blk_cell (blk_below BKA.out HB.out) 2).trans rfl), ((blk_cell (blk_below BKA.out HB.out) 3).trans rfl), ((blk_cell (blk_below BKA.out HB.out) 4).trans rfl), ((blk_cell (blk_below BKA.out HB.out) 5).trans rfl), ((blk_cell (blk_below BKA.out HB.out) 6).trans rfl), ((blk_cell (blk_below BKA.out HB.out) 7).trans rfl), ((blk_cell (blk_below BKB.out HB.out) 0).trans rfl), ((blk_cell (blk_below BKB.out HB.out) 1).trans rfl), ((blk_cell (blk_below BKB.out HB.out) 2).trans rfl), ((blk_cell (blk_below BKB.out HB.out) 3).trans rfl), ((blk_cell (blk_below BKB.out HB.out) 4).trans rfl), ((blk_cell (blk_below BKB.out HB.out) 5).trans rfl), ((blk_cell (blk_below BKB.out HB.out) 6).trans rfl), ((blk_cell (blk_below BKB.out HB.out) 7).trans rfl)⟩ (fun hHeld => ?_)
    clear hK K
    refine norm_ (a' := ?_) ?_ ?_
    rotate_left
    · show Act.put _ (some 97) _ = _
      simp only [Act.put, List.setIfInBounds_toArray, List.set_cons_zero, List.set_cons_succ, i64_w, i32_w]
      rfl
    refine one_ (i := 7) (N := some 100) #[true, true, true, true, true, true, true, true, true, false, false, false] rfl rfl (one_of HT_.out (by kernel_rfl)) (by decide) (fun K hK => ?_)
    refine goes_ Tryd.func10 (by kernel_rfl) rfl #[.pointer (some ⟨gs, 0, none⟩), .agg #[.bool true, .int .i64 xb.f0, .string xb.f1, .string xb.f2, .slice Ab xb.f3.length cb, .string xb.f4, .string xb.f5, .string kb]] (by rfl) rfl rfl (by (try simp only [List.map_toArray, List.map_cons, List.map_nil]); first | done | rfl | (simp only [List.length_drop, List.length_take]; rfl)) ?_
    with_reducible refine (changed_drop _ (.pointer (some ⟨gs, 0, none⟩)) M0 xb Ab cb kb HS0.out HZ0.out HKZb.out).mono ?_
    rintro er w10 ⟨v10, rfl, hs10, hb_⟩
    have n0_ := Aside0.mk (below_step (by repeat (first | (with_reducible first | exact HB.out | apply below_alloc | apply pw_below_drewN | apply below_drew1) | exact HB.out)) hb_)
    have HS10 := Aside0.mk (show Sn w10 v10 (chM M0 true xb kb (key xb)) from Or.inr hs10.rd)
    have n1_ := Aside0.mk (HT9.out.below hb_)
    clear HT9 HS0 hs10 hb_
    have HT9 := n1_
    clear n1_
    clear HB
    have HB := n0_
    clear n0_
    refine ⟨_, rfl, ?_⟩
    refine hK.out _ _ ⟨((blk_cell (blk_below BKA.out HB.out) 0).trans rfl), ((blk_cell (blk_below BKA.out HB.out) 1).trans rfl), ((blk_cell (blk_below BKA.out HB.out) 2).trans rfl), ((blk_cell (blk_below BKA.out HB.out) 3).trans rfl), ((blk_cell (blk_below BKA.out HB.out) 4).trans rfl), ((blk_cell (blk_below BKA.out HB.out) 5).trans rfl), ((blk_cell (blk_below BKA.out HB.out) 6).trans rfl), ((blk_cell (blk_below BKA.out HB.out) 7).trans rfl), ((blk_cell (blk_below BKB.out HB.out) 0).trans rfl), ((blk_cell (blk_below BKB.out HB.out) 1).trans rfl), ((blk_cell (blk_below BKB.out HB.out) 2).trans rfl), ((blk_cell (blk_below BKB.out HB.out) 3).trans rfl), ((blk_cell (blk_below BKB.out HB.out) 4).trans rfl), ((blk_cell (blk_below BKB.out HB.out) 5).trans rfl), ((blk_cell (blk_below BKB.out HB.out) 6).trans rfl), ((blk_cell (blk_below BKB.out HB.out) 7).trans rfl)⟩ (fun hHeld => ?_)
    clear hK K
    refine norm_ (a' := ?_) ?_ ?_
    rotate_left
    · show Act.put _ (some 100) _ = _
      simp only [Act.put, List.setIfInBounds_toArray, List.set_cons_zero, List.set_cons_succ, i64_w, i32_w]
      rfl
    refine one_ (i := 9) (N := some 102) #[true, true, true, true, true, true, true, true, true, true, false, false] rfl rfl (one_of HT_.out (by kernel_rfl)) (by decide) (fun K hK => ?_)
    refine goes_ Tryd.func10 (by kernel_rfl) rfl #[v10, .agg #[.bool true, .int .i64 xa.f0, .string xa.f1, .string xa.f2, .slice Aa xa.f3.length ca, .string xa.f4, .string xa.f5, .string ka]] (by rfl) rfl rfl (by (try simp only [List.map_toArray, List.map_cons, List.map_nil]); first | done | rfl | (simp only [List.length_drop, List.length_take]; rfl)) ?_
    with_reducible refine (changed_drop _ v10 (chM M0 true xb kb (key xb)) xa Aa ca ka HS10.out HZb.out HKZa.out).mono ?_
    rintro er w11 ⟨v11, rfl, hs11, hb_⟩
    have n0_ := Aside0.mk (below_step (by repeat (first | (with_reducible first | exact HB.out | apply below_alloc | apply pw_below_drewN | apply below_drew1) | exact HB.out)) hb_)
    have HT11 := Aside0.mk (show SnR w11 v11 (chM (chM M0 true xb kb (key xb)) true xa ka (key xa)) from hs11.rd)
    have n1_ := Aside0.mk (HT9.out.below hb_)
    clear HT9 HS10 hs11 hb_
    have HT9 := n1_
    clear n1_
    clear HB
    have HB := n0_
    clear n0_
    refine ⟨_, rfl, ?_⟩
    refine hK.out _ _ ⟨((blk_cell (blk_below BKA.out HB.out) 0).trans rfl), ((blk_cell (blk_below BKA.out HB.out) 1).trans rfl), ((blk_cell (blk_below BKA.out HB.out) 2).trans rfl), ((blk_cell (blk_below BKA.out HB.out) 3).trans rfl), ((blk_cell (blk_below BKA.out HB.out) 4).trans rfl), ((blk_cell (blk_below BKA.out HB.out) 5).trans rfl), ((blk_cell (blk_below BKA.out HB.out) 6).trans rfl), ((blk_cell (blk_below BKA.out HB.out) 7).trans rfl), ((blk_cell (blk_below BKB.out HB.out) 0).trans rfl), ((blk_cell (blk_below BKB.out HB.out) 1).trans rfl), ((blk_cell (blk_below BKB.out HB.out) 2).trans rfl), ((blk_cell (blk_below BKB.out HB.out) 3).trans rfl), ((blk_cell (blk_below BKB.out HB.out) 4).trans rfl), ((blk_cell (blk_below BKB.out HB.out) 5).trans rfl), ((blk_cell (blk_below BKB.out HB.out) 6).trans rfl), ((blk_cell (blk_below BKB.out HB.out) 7).trans rfl)⟩ (fun hHeld => ?_)
    clear hK K
    refine norm_ (a' := ?_) ?_ ?_
    rotate_left
    · show Act.put _ (some 102) _ = _
      simp only [Act.put, List.setIfInBounds_toArray, List.set_cons_zero, List.set_cons_succ, i64_w, i32_w]
      rfl
    refine pure_ (i := 10) (N := some 11) (v := ?_) (a' := ?_) #[true, true, true, true, true, true, true, true, true, true, true, false] rfl rfl (any_of HT_.out (by kernel_rfl)) (fun _ _ _ h => h) (Or.inl ⟨by rfl, ?_⟩) ?_ ?_
    rotate_left
    · intro w'
      go_simp
      with_reducible rfl
    rotate_left
    · simp only [Act.put, List.setIfInBounds_toArray, List.set_cons_zero, List.set_cons_succ, i64_w, i32_w]
      rfl
    refine pure_ (i := 11) (N := some 12) (v := ?_) (a' := ?_) #[true, true, true, true, true, true, true, true, true, true, true, true] rfl rfl (any_of HT_.out (by kernel_rfl)) (fun _ _ _ h => h) (Or.inl ⟨by rfl, ?_⟩) ?_ ?_
    rotate_left
    · intro w'
      go_simp
      with_reducible rfl
    rotate_left
    · simp only [Act.put, List.setIfInBounds_toArray, List.set_cons_zero, List.set_cons_succ, i64_w, i32_w]
      rfl
    refine done_ (done_of HT_.out (by kernel_rfl)) ?_
    have HMM := Aside0.mk (chM_comm HIM.out true true xa xb ka kb (key xa) (key xb) HXY.out (by obtain ⟨_, _, _, _, hm⟩ := HT9.out; exact hm.canon) (by obtain ⟨_, _, _, _, hm⟩ := HT11.out; exact hm.canon))
    have n1_ := Aside0.mk HT11.out
    rw [← HMM.out] at n1_
    clear HT11
    have HT11 := n1_
    clear n1_
    have HZT := Aside0.mk (show Maps.size (chM (chM M0 true xa ka (key xa)) true xb kb (key xb)) ≤ 1000000 by have h1 := size_ch M0 true xa ka (key xa); have h2 := size_ch (chM M0 true xa ka (key xa)) true xb kb (key xb); have := HZ0.out; omega)
    have HEL := Aside0.mk (show ∀ x, ElemOf (chM (chM M0 true xa ka (key xa)) true xb kb (key xb)) x → x ∈ l ∨ x = xa ∨ x = xb from fun x hx => by
      rcases elem_ch (chM_isMap HIM.out ..) _ _ _ _ hx with h | h
      · exact Or.inr (Or.inr h)
      · rcases elem_ch HIM.out _ _ _ _ h with h | h
        · exact Or.inr (Or.inl h)
        · exact Or.inl (HE0.out x h))
    have HEQ := Aside0.mk (show equalM sm (chM (chM M0 true xa ka (key xa)) true xb kb (key xb)) (chM (chM M0 true xa ka (key xa)) true xb kb (key xb)) = true by
      obtain ⟨_, _, _, _, hm⟩ := HT9.out
      exact equal_self sm hm.canon hm.elems (fun x hx => HSELF.out x (HEL.out x hx)))
    have HDS := Aside0.mk (fun x y (hx : ElemOf (chM (chM M0 true xa ka (key xa)) true xb kb (key xb)) x) (hy : ElemOf (chM (chM M0 true xa ka (key xa)) true xb kb (key xb)) y) => HSM.out x y (HEL.out x hx) (HEL.out y hy))
    obtain ⟨M9, hM9⟩ : ∃ M9, M9 = chM (chM M0 true xa ka (key xa)) true xb kb (key xb) := ⟨_, rfl⟩
    rw [← hM9] at HT9 HT11 HZT HEQ HDS
    clear HMM hM9 HEL
    obtain ⟨g9, b9, rfl, hc9, hm9⟩ := HT9.out
    obtain ⟨g11, b11, rfl, hc11, hm11⟩ := HT11.out
    clear hc9 hm9 hc11 hm11
    go_wp2_with (first | (go_at_call 11; (with_reducible refine (same_calls sm k _ _ _ M9 M9 HT9.out HT11.out HZT.out HZT.out HDS.out).mono ?_); rintro e wz ⟨rfl, hb_⟩; rw [HEQ.out]; have n0_ := Aside0.mk (below_step (by repeat (first | (with_reducible first | exact HB.out | apply below_alloc | apply pw_below_drewN | apply below_drew1) | exact HB.out)) hb_); clear HB hb_; have HB := n0_; clear n0_))
    go_ret
    exact ⟨rfl, below_step HBW.out (by repeat (first | (with_reducible first | exact HB.out | apply below_alloc | apply pw_below_drewN | apply below_drew1) | exact HB.out))⟩
end Go.Proofs.YtmlebgikdegjjaaDoor.Hd
