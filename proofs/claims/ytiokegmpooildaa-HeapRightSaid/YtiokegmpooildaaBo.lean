/- become.Both's closure: objects change places, pair by pair. -/
import Derived.Test.YtiokegmpooildaaHs
import Derived.Outline
namespace Go.Proofs.Ytiokegmpooildaa.Hp
open Go.RowKit Go.Proofs.YtiokegmpooildaaW.PrintWords Go.Proofs.YtiokegmpooildaaW.PrintLast Go.Proofs.YtiokegmpooildaaW.PrintMore Go.Proofs.Ytiokegmpooildaa.PAll
set_option linter.unusedVariables false
set_option linter.unusedSimpArgs false

section
variable {P : Program} {o : Oper} {a : Act} {α : Type} {d : Kd α} {W : World} {base : Nat} {ok okp : Nat → Prop} {xs : List α} {g n cap e : Nat}
theorem N_room (h : Kd.N d e W base ok (.slice (some ⟨g, 0, none⟩) n cap) xs) : ∃ cur, W.heap[g]? = some (.cells cur e (0, 0)) ∧ n * d.sz ≤ cur.size := by
  obtain ⟨_, rows, hl, hR, _⟩ := h
  obtain ⟨_, inner, hown, hr⟩ := hR
  rcases hown.2 with ⟨hv, _⟩ | ⟨g', cap', cur, hv, hb, hh, hnc, hcm, hcs, _⟩
  · cases hv
  injection hv with ha hn hc
  injection ha with ha
  injection ha with hg'
  subst hg'; subst hc
  refine ⟨cur, hh, ?_⟩
  have hnn : n = rows.length := hn
  have h3 : n * d.sz ≤ cap * d.sz := Nat.mul_le_mul_right _ (by omega)
  have hsz : (Kd.raw d.sz).sz = d.sz := rfl
  rw [hsz] at hcs
  omega
/-- A whole element is written: the row behind it, the world. -/
theorem N_put_any (h : Kd.N d e W base ok (.slice (some ⟨g, 0, none⟩) n cap) xs) (i : Int) (h0 : 0 ≤ i) (h1 : i < n) {x' : α} {c' : List Value} (hM : Kd.FK d W okp x' c') (hokp : ∀ k, okp k → ok k ∧ k ≠ g) :
    Kd.N d e (W.setCells g (i.toNat * d.sz) c') base ok (.slice (some ⟨g, 0, none⟩) n cap) (xs.set i.toNat x') ∧ W.grownBy (W.setCells g (i.toNat * d.sz) c') (some g) := by
  have hraw := Kd.FK_raw hM
  obtain ⟨c, hcl, _, hcc, _⟩ := Kd.N_elem h x' i h0 h1
  have hN := Kd.N_seg (j := 0) (seg := c') h i h0 h1 hcl hcc (by rw [hraw.2.1]; omega) (x' := x') (okp := okp) (by rw [List.take_zero, List.nil_append, Nat.zero_add, hraw.2.1, ← hcl, List.drop_length, List.append_nil]; exact hM) hokp
  rw [Nat.add_zero] at hN
  exact hN
theorem N_store_run (h : Kd.N d e W base ok (.slice (some ⟨g, 0, none⟩) n cap) xs) (i : Int) (h0 : 0 ≤ i) (h1 : i < n) {x' : α} {c' : List Value} (hM : Kd.FK d W okp x' c')
    (t : TypeId) (p x : Operand) (ho : o.op = .store t p x) (u : Value) (haddr : a.eval p = .pointer (some ⟨g, i.toNat * d.sz, none⟩)) (hx : a.eval x = u) (hu : u.cells.toList = c') (ht : (P.info? t).map (·.size) = some d.sz) :
    (execOp a.eval o).run P W = .ok .skip (W.setCells g (i.toNat * d.sz) c') := by
  have hraw := Kd.FK_raw hM
  obtain ⟨cur, hh, hfit⟩ := N_room h
  have hrun : (Instr.storeAt t (.pointer (some ⟨g, i.toNat * d.sz, none⟩)) u).run P W = .ok () (W.setCells g (i.toNat * d.sz) c') := by
    refine run_store_run t u c' hh hu (by rw [hraw.2.1]; exact ht) ?_ hraw.2.2
    have h2 : i.toNat * d.sz + d.sz ≤ n * d.sz := by rw [← Nat.succ_mul]; exact Nat.mul_le_mul_right _ (by omega)
    rw [hraw.2.1]
    omega
  unfold execOp
  simp only [ho, haddr, hx, Sem.run_bind, Sem.run_pure, Result.andThen_ok, hrun]
end

def swap2 (l : List S53) (p : S38) : List S53 := (l.set (p.f0 / 2).toNat (rd_T53 l (p.f1 / 2))).set (p.f1 / 2).toNat (rd_T53 l (p.f0 / 2))
def swapN (l : List S53) (ps : List S38) : List S53 := ps.foldl swap2 l
theorem swapN_length (l : List S53) (ps : List S38) : (swapN l ps).length = l.length := by
  unfold swapN
  induction ps generalizing l with
  | nil => rfl
  | cons p r ih => rw [List.foldl_cons, ih]; simp [swap2]
theorem swapN_next (l : List S53) (ps : List S38) (i : Int) (h0 : 0 ≤ i) (h1 : i < (ps.length : Int)) : swapN l (ps.take (i + 1).toNat) = swap2 (swapN l (ps.take i.toNat)) (rd_T38 ps i) := by
  have e : (i + 1).toNat = i.toNat + 1 := by omega
  unfold swapN
  rw [e, List.take_succ_eq_append_getElem (by omega), List.foldl_append]
  unfold rd_T38
  rw [List.getD_eq_getElem?_getD, List.getElem?_eq_getElem (by omega)]
  rfl
theorem rd38_mem {xs : List S38} {i : Int} (h0 : 0 ≤ i) (h1 : i < (xs.length : Int)) : rd_T38 xs i ∈ xs := by
  unfold rd_T38
  rw [List.getD_eq_getElem?_getD, List.getElem?_eq_getElem (by omega)]
  exact List.getElem_mem _
/-- Pairs of references to n objects. -/
def PairsIn (n : Nat) (ps : List S38) : Prop := ∀ p ∈ ps, (0 ≤ p.f0 ∧ p.f0 / 2 < (n : Int)) ∧ (0 ≤ p.f1 ∧ p.f1 / 2 < (n : Int))
def both_do.T3 : Bool × List (List Nat × List Nat) := (true, [([], []), ([], []), ([1], [1]), ([2], [2]), ([], []), ([], []), ([5], [5]), ([6], [6]), ([], []), ([], []), ([9], [9]), ([10], [10]), ([8, 11], [8, 11]), ([12], [12]), ([], []), ([], []), ([15], [15]), ([16], [16]), ([14, 17], [14, 17]), ([18], [18]), ([0, 3, 0, 1, 2, 3, 8, 9, 10, 11, 12, 13, 19], [0, 3]), ([20, 13, 0, 1, 2, 3, 8, 9, 10, 11, 12, 13, 19], [13, 20]), ([4, 7, 0, 1, 2, 3, 4, 5, 6, 7, 8, 9, 10, 11, 12, 13, 14, 15, 16, 17, 18, 19, 20, 21], [4, 7]), ([22, 19, 21, 0, 1, 2, 3, 4, 5, 6, 7, 8, 9, 10, 11, 12, 13, 14, 15, 16, 17, 18, 19, 20, 21], [19, 22])])
def both_do.B3 : List Nat := [0, 0, 2, 6, 0, 0, 32, 96, 0, 0, 512, 1536, 3840, 7936, 0, 0, 32768, 98304, 245760, 507904, 1048335, 2096911, 4194303, 8388607]
theorem both_do.tab3 : rtab .any (opsOf Try.f58 3) = both_do.T3 := by kernel_rfl
theorem both_do.bits3 : waitsOk both_do.T3.2 both_do.B3 = true := by kernel_rfl

set_option maxHeartbeats 16000000 in
set_option maxRecDepth 100000 in
theorem both_do (hp B : Nat) (v : Value) (Ap : Option Addr) (cp : Nat) (ps : List S38) (l : List S53) (w0 w : World) (hN : Kd.N k53 53 w B (fun _ => True) v l) (hC : Kd.C k38 w0 Ap ps.length ps) (hcp : ps.length ≤ cp) (hc : w0.cell? ⟨hp, 0, none⟩ = some (.slice Ap ps.length cp))
    (hB0 : Below w0.heap.size w0 w) (hle : w0.heap.size ≤ B) (hin : PairsIn l.length ps) (hm : ps.length ≤ 100000) :
    Calls Try.prog 58 #[v, .pointer (some ⟨hp, 0, none⟩)] w fun e w' => e = .returned (.tuple #[]) ∧ Kd.N k53 53 w' B (fun _ => True) v (swapN l ps) ∧ Below w0.heap.size w0 w' := by
  have HR := Aside0.mk hC
  have HIN := Aside0.mk hin
  have hcw := (hB0.cell (World.block_lt_of_cell? w0 _ hc)).trans hc
  have HN := Aside0.mk hN
  have HB := Aside0.mk hB0
  clear hC hin hN hB0 hc
  go_enter Try.func58, Try.ntmps58
  go_wp2_with (fail)
  go_loopg [7] ps.length (fun kq v7 w' => ∃ x : Int, v7 = .int .i64 x ∧ 0 ≤ x ∧ x ≤ ps.length ∧ Aside0 ((kq : Int) + x = ps.length) ∧ Aside0 (Kd.N k53 53 w' B (fun _ => True) v (swapN l (ps.take x.toNat))) ∧ Aside0 (Below w0.heap.size w0 w'))
  case atStart => exact ⟨0, rfl, by omega, by omega, ⟨by simp⟩, ⟨by rw [Int.toNat_zero, List.take_zero]; exact HN.out⟩, HB⟩
  case round =>
    clear hcw HN HB
    obtain ⟨x, rfl, p0, p1, HK, HN, HB⟩ := hrel
    by_cases hlt : x < (ps.length : Int)
    · have c3b0 : decide (x < (ps.length : Int)) = true := decide_eq_true hlt
      obtain ⟨ad, e0, hx0, hx1⟩ := at_T38 HR.out x p0 hlt
      cases e0
      replace hx0 := (HB.out.cell (World.block_lt_of_cell? w0 _ hx0)).trans hx0
      replace hx1 := (HB.out.cell (World.block_lt_of_cell? w0 _ hx1)).trans hx1
      have hpin := HIN.out _ (rd38_mem p0 hlt)
      have HNX := Aside0.mk (swapN_next l ps x p0 hlt)
      have HLN := Aside0.mk (swapN_length l (ps.take x.toNat))
      obtain ⟨xs, hxs⟩ : ∃ xs, xs = swapN l (ps.take x.toNat) := ⟨_, rfl⟩
      rw [← hxs] at HN HNX HLN
      clear hxs
      obtain ⟨gl, cl, ev, _⟩ := Kd.N_form HN.out (by rw [HLN.out]; omega)
      subst ev
      have HC := Aside0.mk (Below.refl wr.heap.size wr)
      go_upto_region 3 with (first | ((with_reducible refine gate_dst (N := 4) rfl ?_); refine box_event ?hg (N := 4) ?hd (cs := #[.int .u64 0, .int .u64 0]) (t := 38) ?hr ?_; (case hd => rfl); (case hg => rfl); (case hr => first | (go_simp; done) | (go_simp; rfl)); intro gb hg wbgb hbox hb; have n0_ := Aside0.mk (below_step (by repeat (first | (with_reducible first | exact HC.out | apply below_alloc | apply pw_below_drewN | apply below_drew1) | exact HC.out)) hb); have n1_ := Aside0.mk (hbox); have n2_ := Aside0.mk (by rw [hg]; exact below_size (by repeat (first | (with_reducible first | exact HC.out | apply below_alloc | apply pw_below_drewN | apply below_drew1) | exact HC.out)) : wr.heap.size ≤ gb); clear HC; have HC := n0_; have BKgb := n1_; have GEgb := n2_; clear n0_ n1_ n2_; clear hb hbox hg; have hzgb0 : wbgb.cell? ⟨gb, 0, none⟩ = some (.int .u64 0) := (blk_cell BKgb.out 0).trans rfl; have hfgb0 := blk_frozen BKgb.out 0; have hzgb1 : wbgb.cell? ⟨gb, 1, none⟩ = some (.int .u64 0) := (blk_cell BKgb.out 1).trans rfl; have hfgb1 := blk_frozen BKgb.out 1))
      have n0_ := Aside0.mk (show ((wbgb.setCell ⟨gb, 0, none⟩ (.int .u64 (rd_T38 ps x).f0)).setCell ⟨gb, 1, none⟩ (.int .u64 (rd_T38 ps x).f1)).heap[gb]? = some (.cells #[.int .u64 (rd_T38 ps x).f0, .int .u64 (rd_T38 ps x).f1] 38 (0, 0)) from blk_put (cs := #[.int .u64 (rd_T38 ps x).f0, .int .u64 0]) (blk_put (cs := #[.int .u64 0, .int .u64 0]) BKgb.out 0 _ rfl) 1 _ rfl)
      have n1_ := Aside0.mk (show Below wr.heap.size wr ((wbgb.setCell ⟨gb, 0, none⟩ (.int .u64 (rd_T38 ps x).f0)).setCell ⟨gb, 1, none⟩ (.int .u64 (rd_T38 ps x).f1)) from by repeat (first | (with_reducible first | exact HC.out | refine below_set ?_ GEgb.out) | exact HC.out))
      clear BKgb HC hzgb0 hzgb1 hfgb0 hfgb1
      have BKgb := n0_
      have HC := n1_
      clear n0_ n1_
      generalize ((wbgb.setCell ⟨gb, 0, none⟩ (.int .u64 (rd_T38 ps x).f0)).setCell ⟨gb, 1, none⟩ (.int .u64 (rd_T38 ps x).f1)) = W1 at BKgb HC ⊢
      have n0_ := Aside0.mk (Kd.N_below HN.out HC.out)
      have HN0 := HN
      clear HN
      have HN := n0_
      clear n0_
      obtain ⟨⟨pa0, pa1⟩, ⟨pb0, pb1⟩⟩ := hpin
      have HLx := HLN.out
      have qa0 : 0 ≤ (rd_T38 ps x).f0 / 2 := by omega
      have qa1 : (rd_T38 ps x).f0 / 2 < ((xs.length : Nat) : Int) := by omega
      have qb0 : 0 ≤ (rd_T38 ps x).f1 / 2 := by omega
      have qb1 : (rd_T38 ps x).f1 / 2 < ((xs.length : Nat) : Int) := by omega
      clear HLx
      obtain ⟨ca, hcla, hFa, hcca, hfra⟩ := Kd.N_elem HN.out z53 ((rd_T38 ps x).f0 / 2) qa0 qa1
      obtain ⟨cb, hclb, hFb, hccb, hfrb⟩ := Kd.N_elem HN.out z53 ((rd_T38 ps x).f1 / 2) qb0 qb1
      obtain ⟨A1, c1, A2, c2, eca, _⟩ := k53_open (Kd.FK_now hFa)
      obtain ⟨B1, d1, B2, d2, ecb, _⟩ := k53_open (Kd.FK_now hFb)
      subst eca ecb
      have ha0 : W1.cell? ⟨gl, ((rd_T38 ps x).f0 / 2).toNat * 3, none⟩ = some (.int .u64 (rd_T53 xs ((rd_T38 ps x).f0 / 2)).f0) := hcca 0 _ rfl
      have ha1 : W1.cell? ⟨gl, ((rd_T38 ps x).f0 / 2).toNat * 3 + 1, none⟩ = some (.slice A1 (rd_T53 xs ((rd_T38 ps x).f0 / 2)).f1.length c1) := hcca 1 _ rfl
      have ha2 : W1.cell? ⟨gl, ((rd_T38 ps x).f0 / 2).toNat * 3 + 2, none⟩ = some (.slice A2 (rd_T53 xs ((rd_T38 ps x).f0 / 2)).f2.length c2) := hcca 2 _ rfl
      have hb0 : W1.cell? ⟨gl, ((rd_T38 ps x).f1 / 2).toNat * 3, none⟩ = some (.int .u64 (rd_T53 xs ((rd_T38 ps x).f1 / 2)).f0) := hccb 0 _ rfl
      have hb1 : W1.cell? ⟨gl, ((rd_T38 ps x).f1 / 2).toNat * 3 + 1, none⟩ = some (.slice B1 (rd_T53 xs ((rd_T38 ps x).f1 / 2)).f1.length d1) := hccb 1 _ rfl
      have hb2 : W1.cell? ⟨gl, ((rd_T38 ps x).f1 / 2).toNat * 3 + 2, none⟩ = some (.slice B2 (rd_T53 xs ((rd_T38 ps x).f1 / 2)).f2.length d2) := hccb 2 _ rfl
      have HGB := Aside0.mk (Nat.le_trans hle (Kd.N_base HN.out gl (by simp [Value.ownBlock])))
      have NE := Aside0.mk (show gb ≠ gl from fun e_ => by have := Kd.N_lt HN0.out gl (by simp [Value.ownBlock]); have := GEgb.out; omega)
      clear hcca hccb hfra hfrb hcla hclb
      have ga0 : (0 ≤ (rd_T38 ps x).f0 / 2) = True := eq_true qa0
      have ga1 : ((rd_T38 ps x).f0 / 2 < (xs.length : Int)) = True := eq_true qa1
      have gb0 : (0 ≤ (rd_T38 ps x).f1 / 2) = True := eq_true qb0
      have gb1 : ((rd_T38 ps x).f1 / 2 < (xs.length : Int)) = True := eq_true qb1
      refine start_ (n := 24) (S := fun w' => w'.cell? ⟨gb, 0, none⟩ = some (.int .u64 (rd_T38 ps x).f0) ∧ w'.cell? ⟨gb, 1, none⟩ = some (.int .u64 (rd_T38 ps x).f1)) (ds := []) #[false, false, false, false, false, false, false, false, false, false, false, false, false, false, false, false, false, false, false, false, false, false, false, false] (by kernel_rfl) rfl rfl ⟨(blk_cell (blk_drew BKgb.out) 0).trans rfl, (blk_cell (blk_drew BKgb.out) 1).trans rfl⟩ (fun hHeld => ?_); refine with_tabW both_do.tab3 both_do.bits3 (fun HT_ HW_ => ?_)
      have n0_ := Aside0.mk (Kd.N_drew HN.out)
      have n1_ := Aside0.mk (below_drew1 HC.out)
      have n2_ := Aside0.mk (show Kd.FK k53 W1.drew (fun k => True ∧ k ≠ gl) (rd_T53 xs ((rd_T38 ps x).f0 / 2)) [.int .u64 (rd_T53 xs ((rd_T38 ps x).f0 / 2)).f0, .slice A1 (rd_T53 xs ((rd_T38 ps x).f0 / 2)).f1.length c1, .slice A2 (rd_T53 xs ((rd_T38 ps x).f0 / 2)).f2.length c2] from Kd.FK_step hFa (fun _ _ _ => rfl))
      have n3_ := Aside0.mk (show Kd.FK k53 W1.drew (fun k => True ∧ k ≠ gl) (rd_T53 xs ((rd_T38 ps x).f1 / 2)) [.int .u64 (rd_T53 xs ((rd_T38 ps x).f1 / 2)).f0, .slice B1 (rd_T53 xs ((rd_T38 ps x).f1 / 2)).f1.length d1, .slice B2 (rd_T53 xs ((rd_T38 ps x).f1 / 2)).f2.length d2] from Kd.FK_step hFb (fun _ _ _ => rfl))
      have n4_ := Aside0.mk (blk_drew BKgb.out)
      replace ha0 : W1.drew.cell? ⟨gl, ((rd_T38 ps x).f0 / 2).toNat * 3, none⟩ = some (.int .u64 (rd_T53 xs ((rd_T38 ps x).f0 / 2)).f0) := ha0
      replace ha1 : W1.drew.cell? ⟨gl, ((rd_T38 ps x).f0 / 2).toNat * 3 + 1, none⟩ = some (.slice A1 (rd_T53 xs ((rd_T38 ps x).f0 / 2)).f1.length c1) := ha1
      replace ha2 : W1.drew.cell? ⟨gl, ((rd_T38 ps x).f0 / 2).toNat * 3 + 2, none⟩ = some (.slice A2 (rd_T53 xs ((rd_T38 ps x).f0 / 2)).f2.length c2) := ha2
      replace hb0 : W1.drew.cell? ⟨gl, ((rd_T38 ps x).f1 / 2).toNat * 3, none⟩ = some (.int .u64 (rd_T53 xs ((rd_T38 ps x).f1 / 2)).f0) := hb0
      replace hb1 : W1.drew.cell? ⟨gl, ((rd_T38 ps x).f1 / 2).toNat * 3 + 1, none⟩ = some (.slice B1 (rd_T53 xs ((rd_T38 ps x).f1 / 2)).f1.length d1) := hb1
      replace hb2 : W1.drew.cell? ⟨gl, ((rd_T38 ps x).f1 / 2).toNat * 3 + 2, none⟩ = some (.slice B2 (rd_T53 xs ((rd_T38 ps x).f1 / 2)).f2.length d2) := hb2
      clear HN HC hFa hFb BKgb
      have HN := n0_
      have HC := n1_
      have HFa := n2_
      have HFb := n3_
      have BKgb := n4_
      clear n0_ n1_ n2_ n3_ n4_
      generalize W1.drew = W2 at HN HC HFa HFb BKgb ha0 ha1 ha2 hb0 hb1 hb2 hHeld ⊢
      refine pure_ (i := 0) (N := some 11) (v := ?_) (a' := ?_) #[true, false, false, false, false, false, false, false, false, false, false, false, false, false, false, false, false, false, false, false, false, false, false, false] rfl rfl (any_of HT_.out (by kernel_rfl)) (fun _ _ _ h => h) (Or.inl ⟨by rfl, ?_⟩) ?_ ?_
      rotate_left
      · intro w'
        go_simp
        with_reducible rfl
      rotate_left
      · simp only [Act.put, List.setIfInBounds_toArray, List.set_cons_zero, List.set_cons_succ, i64_w, i32_w]
        rfl
      refine pure_ (i := 1) (N := some 12) (v := ?_) (a' := ?_) #[true, true, false, false, false, false, false, false, false, false, false, false, false, false, false, false, false, false, false, false, false, false, false, false] rfl rfl (any_of HT_.out (by kernel_rfl)) (fun _ _ _ h => h) (Or.inl ⟨by rfl, ?_⟩) ?_ ?_
      rotate_left
      · intro w'
        go_simp
        with_reducible rfl
      rotate_left
      · simp only [Act.put, List.setIfInBounds_toArray, List.set_cons_zero, List.set_cons_succ, i64_w, i32_w]
        rfl
      refine pure_ (i := 4) (N := some 15) (v := ?_) (a' := ?_) #[true, true, false, false, true, false, false, false, false, false, false, false, false, false, false, false, false, false, false, false, false, false, false, false] rfl rfl (any_of HT_.out (by kernel_rfl)) (fun _ _ _ h => h) (Or.inl ⟨by rfl, ?_⟩) ?_ ?_
      rotate_left
      · intro w'
        go_simp
        with_reducible rfl
      rotate_left
      · simp only [Act.put, List.setIfInBounds_toArray, List.set_cons_zero, List.set_cons_succ, i64_w, i32_w]
        rfl
      refine pure_ (i := 5) (N := some 16) (v := ?_) (a' := ?_) #[true, true, false, false, true, true, false, false, false, false, false, false, false, false, false, false, false, false, false, false, false, false, false, false] rfl rfl (any_of HT_.out (by kernel_rfl)) (fun _ _ _ h => h) (Or.inl ⟨by rfl, ?_⟩) ?_ ?_
      rotate_left
      · intro w'
        go_simp
        with_reducible rfl
      rotate_left
      · simp only [Act.put, List.setIfInBounds_toArray, List.set_cons_zero, List.set_cons_succ, i64_w, i32_w]
        rfl
      refine pure_ (i := 8) (N := some 19) (v := ?_) (a' := ?_) #[true, true, false, false, true, true, false, false, true, false, false, false, false, false, false, false, false, false, false, false, false, false, false, false] rfl rfl (any_of HT_.out (by kernel_rfl)) (fun _ _ _ h => h) (Or.inl ⟨by rfl, ?_⟩) ?_ ?_
      rotate_left
      · intro w'
        go_simp
        with_reducible rfl
      rotate_left
      · simp only [Act.put, List.setIfInBounds_toArray, List.set_cons_zero, List.set_cons_succ, i64_w, i32_w]
        rfl
      refine pure_ (i := 9) (N := some 20) (v := ?_) (a' := ?_) #[true, true, false, false, true, true, false, false, true, true, false, false, false, false, false, false, false, false, false, false, false, false, false, false] rfl rfl (any_of HT_.out (by kernel_rfl)) (fun _ _ _ h => h) (Or.inl ⟨by rfl, ?_⟩) ?_ ?_
      rotate_left
      · intro w'
        go_simp
        with_reducible rfl
      rotate_left
      · simp only [Act.put, List.setIfInBounds_toArray, List.set_cons_zero, List.set_cons_succ, i64_w, i32_w]
        rfl
      refine pure_ (i := 14) (N := some 25) (v := ?_) (a' := ?_) #[true, true, false, false, true, true, false, false, true, true, false, false, false, false, true, false, false, false, false, false, false, false, false, false] rfl rfl (any_of HT_.out (by kernel_rfl)) (fun _ _ _ h => h) (Or.inl ⟨by rfl, ?_⟩) ?_ ?_
      rotate_left
      · intro w'
        go_simp
        with_reducible rfl
      rotate_left
      · simp only [Act.put, List.setIfInBounds_toArray, List.set_cons_zero, List.set_cons_succ, i64_w, i32_w]
        rfl
      refine pure_ (i := 15) (N := some 26) (v := ?_) (a' := ?_) #[true, true, false, false, true, true, false, false, true, true, false, false, false, false, true, true, false, false, false, false, false, false, false, false] rfl rfl (any_of HT_.out (by kernel_rfl)) (fun _ _ _ h => h) (Or.inl ⟨by rfl, ?_⟩) ?_ ?_
      rotate_left
      · intro w'
        go_simp
        with_reducible rfl
      rotate_left
      · simp only [Act.put, List.setIfInBounds_toArray, List.set_cons_zero, List.set_cons_succ, i64_w, i32_w]
        rfl
      refine take_ (i := 2) (N := some 13) (v := ?_) (a' := ?_) #[true, true, true, false, true, true, false, false, true, true, false, false, false, false, true, true, false, false, false, false, false, false, false, false] rfl rfl (take_ofW HT_.out HW_.out (by kernel_rfl)) (fun _ _ _ h => h) (Or.inl ⟨by rfl, ?_⟩) hHeld ?_ ?_
      rotate_left
      · rintro w' ⟨s0, s1⟩
        go_simp
        with_reducible rfl
      rotate_left
      · simp only [Act.put, List.setIfInBounds_toArray, List.set_cons_zero, List.set_cons_succ, i64_w, i32_w]
        rfl
      refine take_ (i := 6) (N := some 17) (v := ?_) (a' := ?_) #[true, true, true, false, true, true, true, false, true, true, false, false, false, false, true, true, false, false, false, false, false, false, false, false] rfl rfl (take_ofW HT_.out HW_.out (by kernel_rfl)) (fun _ _ _ h => h) (Or.inl ⟨by rfl, ?_⟩) hHeld ?_ ?_
      rotate_left
      · rintro w' ⟨s0, s1⟩
        go_simp
        with_reducible rfl
      rotate_left
      · simp only [Act.put, List.setIfInBounds_toArray, List.set_cons_zero, List.set_cons_succ, i64_w, i32_w]
        rfl
      refine take_ (i := 10) (N := some 21) (v := ?_) (a' := ?_) #[true, true, true, false, true, true, true, false, true, true, true, false, false, false, true, true, false, false, false, false, false, false, false, false] rfl rfl (take_ofW HT_.out HW_.out (by kernel_rfl)) (fun _ _ _ h => h) (Or.inl ⟨by rfl, ?_⟩) hHeld ?_ ?_
      rotate_left
      · rintro w' ⟨s0, s1⟩
        go_simp
        with_reducible rfl
      rotate_left
      · simp only [Act.put, List.setIfInBounds_toArray, List.set_cons_zero, List.set_cons_succ, i64_w, i32_w]
        rfl
      refine take_ (i := 16) (N := some 27) (v := ?_) (a' := ?_) #[true, true, true, false, true, true, true, false, true, true, true, false, false, false, true, true, true, false, false, false, false, false, false, false] rfl rfl (take_ofW HT_.out HW_.out (by kernel_rfl)) (fun _ _ _ h => h) (Or.inl ⟨by rfl, ?_⟩) hHeld ?_ ?_
      rotate_left
      · rintro w' ⟨s0, s1⟩
        go_simp
        with_reducible rfl
      rotate_left
      · simp only [Act.put, List.setIfInBounds_toArray, List.set_cons_zero, List.set_cons_succ, i64_w, i32_w]
        rfl
      refine pure_ (i := 3) (N := some 14) (v := ?_) (a' := ?_) #[true, true, true, true, true, true, true, false, true, true, true, false, false, false, true, true, true, false, false, false, false, false, false, false] rfl rfl (any_of HT_.out (by kernel_rfl)) (fun _ _ _ h => h) (Or.inl ⟨by rfl, ?_⟩) ?_ ?_
      rotate_left
      · intro w'
        go_simp
        with_reducible rfl
      rotate_left
      · simp only [Act.put, List.setIfInBounds_toArray, List.set_cons_zero, List.set_cons_succ, i64_w, i32_w]
        rfl
      refine pure_ (i := 7) (N := some 18) (v := ?_) (a' := ?_) #[true, true, true, true, true, true, true, true, true, true, true, false, false, false, true, true, true, false, false, false, false, false, false, false] rfl rfl (any_of HT_.out (by kernel_rfl)) (fun _ _ _ h => h) (Or.inl ⟨by rfl, ?_⟩) ?_ ?_
      rotate_left
      · intro w'
        go_simp
        with_reducible rfl
      rotate_left
      · simp only [Act.put, List.setIfInBounds_toArray, List.set_cons_zero, List.set_cons_succ, i64_w, i32_w]
        rfl
      refine pure_ (i := 11) (N := some 22) (v := ?_) (a' := ?_) #[true, true, true, true, true, true, true, true, true, true, true, true, false, false, true, true, true, false, false, false, false, false, false, false] rfl rfl (any_of HT_.out (by kernel_rfl)) (fun _ _ _ h => h) (Or.inl ⟨by rfl, ?_⟩) ?_ ?_
      rotate_left
      · intro w'
        go_simp
        with_reducible rfl
      rotate_left
      · simp only [Act.put, List.setIfInBounds_toArray, List.set_cons_zero, List.set_cons_succ, i64_w, i32_w]
        rfl
      refine pure_ (i := 17) (N := some 28) (v := ?_) (a' := ?_) #[true, true, true, true, true, true, true, true, true, true, true, true, false, false, true, true, true, true, false, false, false, false, false, false] rfl rfl (any_of HT_.out (by kernel_rfl)) (fun _ _ _ h => h) (Or.inl ⟨by rfl, ?_⟩) ?_ ?_
      rotate_left
      · intro w'
        go_simp
        with_reducible rfl
      rotate_left
      · simp only [Act.put, List.setIfInBounds_toArray, List.set_cons_zero, List.set_cons_succ, i64_w, i32_w]
        rfl
      refine pure_ (i := 12) (N := some 23) (v := ?_) (a' := ?_) #[true, true, true, true, true, true, true, true, true, true, true, true, true, false, true, true, true, true, false, false, false, false, false, false] rfl rfl (any_of HT_.out (by kernel_rfl)) (fun _ _ _ h => h) (Or.inl ⟨by rfl, ?_⟩) ?_ ?_
      rotate_left
      · intro w'
        go_simp
        with_reducible rfl
      rotate_left
      · simp only [Act.put, List.setIfInBounds_toArray, List.set_cons_zero, List.set_cons_succ, i64_w, i32_w]
        rfl
      refine pure_ (i := 18) (N := some 29) (v := ?_) (a' := ?_) #[true, true, true, true, true, true, true, true, true, true, true, true, true, false, true, true, true, true, true, false, false, false, false, false] rfl rfl (any_of HT_.out (by kernel_rfl)) (fun _ _ _ h => h) (Or.inl ⟨by rfl, ?_⟩) ?_ ?_
      rotate_left
      · intro w'
        go_simp
        with_reducible rfl
      rotate_left
      · simp only [Act.put, List.setIfInBounds_toArray, List.set_cons_zero, List.set_cons_succ, i64_w, i32_w]
        rfl
      refine two_ (i := 13) (j := 19) (Ni := some 24) (Nj := some 30) #[true, true, true, true, true, true, true, true, true, true, true, true, true, true, true, true, true, true, true, false, false, false, false, false] #[true, true, true, true, true, true, true, true, true, true, true, true, true, false, true, true, true, true, true, true, false, false, false, false] rfl rfl rfl rfl (two_of HT_.out (by kernel_rfl)) (by decide) (by decide) (fun K hK => ?_) (fun K hK => ?_)
      · refine value_ (w1 := ?_) (v := ?_) (by rfl) rfl ?_ ?_
        rotate_left 2
        · go_simp
          constructor
          · rfl
          · rfl
        refine hK.out _ _ ⟨(blk_cell BKgb.out 0).trans rfl, (blk_cell BKgb.out 1).trans rfl⟩ (fun hHeld => ?_)
        clear hK K
        refine norm_ (a' := ?_) ?_ ?_
        rotate_left
        · show Act.put _ (some 24) _ = _
          simp only [Act.put, List.setIfInBounds_toArray, List.set_cons_zero, List.set_cons_succ, i64_w, i32_w]
          rfl
        refine one_ (i := 19) (N := some 30) #[true, true, true, true, true, true, true, true, true, true, true, true, true, true, true, true, true, true, true, true, false, false, false, false] rfl rfl (one_of HT_.out (by kernel_rfl)) (by decide) (fun K hK => ?_)
        refine value_ (w1 := ?_) (v := ?_) (by rfl) rfl ?_ ?_
        rotate_left 2
        · go_simp
          constructor
          · rfl
          · rfl
        refine hK.out _ _ ⟨(blk_cell BKgb.out 0).trans rfl, (blk_cell BKgb.out 1).trans rfl⟩ (fun hHeld => ?_)
        clear hK K
        refine norm_ (a' := ?_) ?_ ?_
        rotate_left
        · show Act.put _ (some 30) _ = _
          simp only [Act.put, List.setIfInBounds_toArray, List.set_cons_zero, List.set_cons_succ, i64_w, i32_w]
          rfl
        clear ha0 ha1 ha2 hb0 hb1 hb2
        refine pure_ (i := 20) (N := some 31) (v := ?_) (a' := ?_) #[true, true, true, true, true, true, true, true, true, true, true, true, true, true, true, true, true, true, true, true, true, false, false, false] rfl rfl (any_of HT_.out (by kernel_rfl)) (fun _ _ _ h => h) (Or.inl ⟨by rfl, ?_⟩) ?_ ?_
        rotate_left
        · intro w'
          go_simp
          with_reducible rfl
        rotate_left
        · simp only [Act.put, List.setIfInBounds_toArray, List.set_cons_zero, List.set_cons_succ, i64_w, i32_w]
          rfl
        refine one_ (i := 21) (N := none) #[true, true, true, true, true, true, true, true, true, true, true, true, true, true, true, true, true, true, true, true, true, true, false, false] rfl rfl (one_of HT_.out (by kernel_rfl)) (by decide) (fun K hK => ?_)
        refine skip_ (w1 := (W2.setCells gl (((rd_T38 ps x).f0 / 2).toNat * 3) [.int .u64 (rd_T53 xs ((rd_T38 ps x).f1 / 2)).f0, .slice B1 (rd_T53 xs ((rd_T38 ps x).f1 / 2)).f1.length d1, .slice B2 (rd_T53 xs ((rd_T38 ps x).f1 / 2)).f2.length d2])) (by rfl) rfl ?hrun ?_
        case hrun => exact N_store_run HN.out ((rd_T38 ps x).f0 / 2) qa0 qa1 HFb.out 53 (.tmp 31) (.tmp 24) (by rfl) (.agg #[.int .u64 (rd_T53 xs ((rd_T38 ps x).f1 / 2)).f0, .slice B1 (rd_T53 xs ((rd_T38 ps x).f1 / 2)).f1.length d1, .slice B2 (rd_T53 xs ((rd_T38 ps x).f1 / 2)).f2.length d2]) (by rfl) (by rfl) (by rfl) (by kernel_rfl)
        have hp_ := N_put_any HN.out ((rd_T38 ps x).f0 / 2) qa0 qa1 HFb.out (fun k hk => hk)
        have n0_ := Aside0.mk (show Kd.N k53 53 (W2.setCells gl (((rd_T38 ps x).f0 / 2).toNat * 3) [.int .u64 (rd_T53 xs ((rd_T38 ps x).f1 / 2)).f0, .slice B1 (rd_T53 xs ((rd_T38 ps x).f1 / 2)).f1.length d1, .slice B2 (rd_T53 xs ((rd_T38 ps x).f1 / 2)).f2.length d2]) B (fun _ => True) (.slice (some ⟨gl, 0, none⟩) xs.length cl) (xs.set ((rd_T38 ps x).f0 / 2).toNat (rd_T53 xs ((rd_T38 ps x).f1 / 2))) from hp_.1)
        have n1_ := Aside0.mk (show Kd.FK k53 (W2.setCells gl (((rd_T38 ps x).f0 / 2).toNat * 3) [.int .u64 (rd_T53 xs ((rd_T38 ps x).f1 / 2)).f0, .slice B1 (rd_T53 xs ((rd_T38 ps x).f1 / 2)).f1.length d1, .slice B2 (rd_T53 xs ((rd_T38 ps x).f1 / 2)).f2.length d2]) (fun k => True ∧ k ≠ gl) (rd_T53 xs ((rd_T38 ps x).f0 / 2)) [.int .u64 (rd_T53 xs ((rd_T38 ps x).f0 / 2)).f0, .slice A1 (rd_T53 xs ((rd_T38 ps x).f0 / 2)).f1.length c1, .slice A2 (rd_T53 xs ((rd_T38 ps x).f0 / 2)).f2.length c2] from Kd.FK_step HFa.out (fun k hk hlt => hp_.2.block k hlt (fun e_ => hk.2 (by injection e_))))
        have n2_ := Aside0.mk (show W2.grownBy (W2.setCells gl (((rd_T38 ps x).f0 / 2).toNat * 3) [.int .u64 (rd_T53 xs ((rd_T38 ps x).f1 / 2)).f0, .slice B1 (rd_T53 xs ((rd_T38 ps x).f1 / 2)).f1.length d1, .slice B2 (rd_T53 xs ((rd_T38 ps x).f1 / 2)).f2.length d2]) (some gl) from hp_.2)
        have n3_ := Aside0.mk (show (W2.setCells gl (((rd_T38 ps x).f0 / 2).toNat * 3) [.int .u64 (rd_T53 xs ((rd_T38 ps x).f1 / 2)).f0, .slice B1 (rd_T53 xs ((rd_T38 ps x).f1 / 2)).f1.length d1, .slice B2 (rd_T53 xs ((rd_T38 ps x).f1 / 2)).f2.length d2]).heap[gb]? = some (.cells #[.int .u64 (rd_T38 ps x).f0, .int .u64 (rd_T38 ps x).f1] 38 (0, 0)) from blk_grown BKgb.out hp_.2 (fun e_ => NE.out (by injection e_)))
        clear HN HFa hp_ BKgb
        have HN := n0_
        have HFa := n1_
        have HG1 := n2_
        have BKgb := n3_
        clear n0_ n1_ n2_ n3_
        refine hK.out _ _ ⟨(blk_cell BKgb.out 0).trans rfl, (blk_cell BKgb.out 1).trans rfl⟩ (fun hHeld => ?_)
        clear hK K
        generalize (W2.setCells gl (((rd_T38 ps x).f0 / 2).toNat * 3) [.int .u64 (rd_T53 xs ((rd_T38 ps x).f1 / 2)).f0, .slice B1 (rd_T53 xs ((rd_T38 ps x).f1 / 2)).f1.length d1, .slice B2 (rd_T53 xs ((rd_T38 ps x).f1 / 2)).f2.length d2]) = W3 at HN HFa HG1 BKgb ⊢
        refine pure_ (i := 22) (N := some 32) (v := ?_) (a' := ?_) #[true, true, true, true, true, true, true, true, true, true, true, true, true, true, true, true, true, true, true, true, true, true, true, false] rfl rfl (any_of HT_.out (by kernel_rfl)) (fun _ _ _ h => h) (Or.inl ⟨by rfl, ?_⟩) ?_ ?_
        rotate_left
        · intro w'
          go_simp
          with_reducible rfl
        rotate_left
        · simp only [Act.put, List.setIfInBounds_toArray, List.set_cons_zero, List.set_cons_succ, i64_w, i32_w]
          rfl
        refine one_ (i := 23) (N := none) #[true, true, true, true, true, true, true, true, true, true, true, true, true, true, true, true, true, true, true, true, true, true, true, true] rfl rfl (one_of HT_.out (by kernel_rfl)) (by decide) (fun K hK => ?_)
        refine skip_ (w1 := (W3.setCells gl (((rd_T38 ps x).f1 / 2).toNat * 3) [.int .u64 (rd_T53 xs ((rd_T38 ps x).f0 / 2)).f0, .slice A1 (rd_T53 xs ((rd_T38 ps x).f0 / 2)).f1.length c1, .slice A2 (rd_T53 xs ((rd_T38 ps x).f0 / 2)).f2.length c2])) (by rfl) rfl ?hrun ?_
        case hrun => exact N_store_run HN.out ((rd_T38 ps x).f1 / 2) qb0 qb1 HFa.out 53 (.tmp 32) (.tmp 30) (by rfl) (.agg #[.int .u64 (rd_T53 xs ((rd_T38 ps x).f0 / 2)).f0, .slice A1 (rd_T53 xs ((rd_T38 ps x).f0 / 2)).f1.length c1, .slice A2 (rd_T53 xs ((rd_T38 ps x).f0 / 2)).f2.length c2]) (by rfl) (by rfl) (by rfl) (by kernel_rfl)
        have hp_ := N_put_any HN.out ((rd_T38 ps x).f1 / 2) qb0 qb1 HFa.out (fun k hk => hk)
        have n0_ := Aside0.mk (show Kd.N k53 53 (W3.setCells gl (((rd_T38 ps x).f1 / 2).toNat * 3) [.int .u64 (rd_T53 xs ((rd_T38 ps x).f0 / 2)).f0, .slice A1 (rd_T53 xs ((rd_T38 ps x).f0 / 2)).f1.length c1, .slice A2 (rd_T53 xs ((rd_T38 ps x).f0 / 2)).f2.length c2]) B (fun _ => True) (.slice (some ⟨gl, 0, none⟩) xs.length cl) ((xs.set ((rd_T38 ps x).f0 / 2).toNat (rd_T53 xs ((rd_T38 ps x).f1 / 2))).set ((rd_T38 ps x).f1 / 2).toNat (rd_T53 xs ((rd_T38 ps x).f0 / 2))) from hp_.1)
        have n2_ := Aside0.mk (show W3.grownBy (W3.setCells gl (((rd_T38 ps x).f1 / 2).toNat * 3) [.int .u64 (rd_T53 xs ((rd_T38 ps x).f0 / 2)).f0, .slice A1 (rd_T53 xs ((rd_T38 ps x).f0 / 2)).f1.length c1, .slice A2 (rd_T53 xs ((rd_T38 ps x).f0 / 2)).f2.length c2]) (some gl) from hp_.2)
        have n3_ := Aside0.mk (show (W3.setCells gl (((rd_T38 ps x).f1 / 2).toNat * 3) [.int .u64 (rd_T53 xs ((rd_T38 ps x).f0 / 2)).f0, .slice A1 (rd_T53 xs ((rd_T38 ps x).f0 / 2)).f1.length c1, .slice A2 (rd_T53 xs ((rd_T38 ps x).f0 / 2)).f2.length c2]).heap[gb]? = some (.cells #[.int .u64 (rd_T38 ps x).f0, .int .u64 (rd_T38 ps x).f1] 38 (0, 0)) from blk_grown BKgb.out hp_.2 (fun e_ => NE.out (by injection e_)))
        clear HN hp_ BKgb
        have HN := n0_
        have HG2 := n2_
        have BKgb := n3_
        clear n0_ n2_ n3_
        refine hK.out _ _ ⟨(blk_cell BKgb.out 0).trans rfl, (blk_cell BKgb.out 1).trans rfl⟩ (fun hHeld => ?_)
        clear hK K
        generalize (W3.setCells gl (((rd_T38 ps x).f1 / 2).toNat * 3) [.int .u64 (rd_T53 xs ((rd_T38 ps x).f0 / 2)).f0, .slice A1 (rd_T53 xs ((rd_T38 ps x).f0 / 2)).f1.length c1, .slice A2 (rd_T53 xs ((rd_T38 ps x).f0 / 2)).f2.length c2]) = W4 at HN HG2 BKgb ⊢
        refine done_ (done_of HT_.out (by kernel_rfl)) ?_
        go_wp2
        go_roundg (gk - 1)
        case measure => have := HK.out; omega
        case rel => exact ⟨x + 1, (by first | rfl | go_num), by omega, by omega, ⟨by have := HK.out; omega⟩, ⟨by rw [HNX.out]; exact HN.out⟩, ⟨by repeat (first | exact ((below_step HB.out HC.out).grown HG1.out (below_step HB.out HC.out).size (fun k hk => by injection hk with hk; have := HGB.out; omega)).grown HG2.out (Nat.le_trans (below_step HB.out HC.out).size HG1.out.size) (fun k hk => by injection hk with hk; have := HGB.out; omega) | apply below_alloc | apply pw_below_drewN | apply below_drew1)⟩⟩
      · refine value_ (w1 := ?_) (v := ?_) (by rfl) rfl ?_ ?_
        rotate_left 2
        · go_simp
          constructor
          · rfl
          · rfl
        refine hK.out _ _ ⟨(blk_cell BKgb.out 0).trans rfl, (blk_cell BKgb.out 1).trans rfl⟩ (fun hHeld => ?_)
        clear hK K
        refine norm_ (a' := ?_) ?_ ?_
        rotate_left
        · show Act.put _ (some 30) _ = _
          simp only [Act.put, List.setIfInBounds_toArray, List.set_cons_zero, List.set_cons_succ, i64_w, i32_w]
          rfl
        refine one_ (i := 13) (N := some 24) #[true, true, true, true, true, true, true, true, true, true, true, true, true, true, true, true, true, true, true, true, false, false, false, false] rfl rfl (one_of HT_.out (by kernel_rfl)) (by decide) (fun K hK => ?_)
        refine value_ (w1 := ?_) (v := ?_) (by rfl) rfl ?_ ?_
        rotate_left 2
        · go_simp
          constructor
          · rfl
          · rfl
        refine hK.out _ _ ⟨(blk_cell BKgb.out 0).trans rfl, (blk_cell BKgb.out 1).trans rfl⟩ (fun hHeld => ?_)
        clear hK K
        refine norm_ (a' := ?_) ?_ ?_
        rotate_left
        · show Act.put _ (some 24) _ = _
          simp only [Act.put, List.setIfInBounds_toArray, List.set_cons_zero, List.set_cons_succ, i64_w, i32_w]
          rfl
        clear ha0 ha1 ha2 hb0 hb1 hb2
        refine pure_ (i := 20) (N := some 31) (v := ?_) (a' := ?_) #[true, true, true, true, true, true, true, true, true, true, true, true, true, true, true, true, true, true, true, true, true, false, false, false] rfl rfl (any_of HT_.out (by kernel_rfl)) (fun _ _ _ h => h) (Or.inl ⟨by rfl, ?_⟩) ?_ ?_
        rotate_left
        · intro w'
          go_simp
          with_reducible rfl
        rotate_left
        · simp only [Act.put, List.setIfInBounds_toArray, List.set_cons_zero, List.set_cons_succ, i64_w, i32_w]
          rfl
        refine one_ (i := 21) (N := none) #[true, true, true, true, true, true, true, true, true, true, true, true, true, true, true, true, true, true, true, true, true, true, false, false] rfl rfl (one_of HT_.out (by kernel_rfl)) (by decide) (fun K hK => ?_)
        refine skip_ (w1 := (W2.setCells gl (((rd_T38 ps x).f0 / 2).toNat * 3) [.int .u64 (rd_T53 xs ((rd_T38 ps x).f1 / 2)).f0, .slice B1 (rd_T53 xs ((rd_T38 ps x).f1 / 2)).f1.length d1, .slice B2 (rd_T53 xs ((rd_T38 ps x).f1 / 2)).f2.length d2])) (by rfl) rfl ?hrun ?_
        case hrun => exact N_store_run HN.out ((rd_T38 ps x).f0 / 2) qa0 qa1 HFb.out 53 (.tmp 31) (.tmp 24) (by rfl) (.agg #[.int .u64 (rd_T53 xs ((rd_T38 ps x).f1 / 2)).f0, .slice B1 (rd_T53 xs ((rd_T38 ps x).f1 / 2)).f1.length d1, .slice B2 (rd_T53 xs ((rd_T38 ps x).f1 / 2)).f2.length d2]) (by rfl) (by rfl) (by rfl) (by kernel_rfl)
        have hp_ := N_put_any HN.out ((rd_T38 ps x).f0 / 2) qa0 qa1 HFb.out (fun k hk => hk)
        have n0_ := Aside0.mk (show Kd.N k53 53 (W2.setCells gl (((rd_T38 ps x).f0 / 2).toNat * 3) [.int .u64 (rd_T53 xs ((rd_T38 ps x).f1 / 2)).f0, .slice B1 (rd_T53 xs ((rd_T38 ps x).f1 / 2)).f1.length d1, .slice B2 (rd_T53 xs ((rd_T38 ps x).f1 / 2)).f2.length d2]) B (fun _ => True) (.slice (some ⟨gl, 0, none⟩) xs.length cl) (xs.set ((rd_T38 ps x).f0 / 2).toNat (rd_T53 xs ((rd_T38 ps x).f1 / 2))) from hp_.1)
        have n1_ := Aside0.mk (show Kd.FK k53 (W2.setCells gl (((rd_T38 ps x).f0 / 2).toNat * 3) [.int .u64 (rd_T53 xs ((rd_T38 ps x).f1 / 2)).f0, .slice B1 (rd_T53 xs ((rd_T38 ps x).f1 / 2)).f1.length d1, .slice B2 (rd_T53 xs ((rd_T38 ps x).f1 / 2)).f2.length d2]) (fun k => True ∧ k ≠ gl) (rd_T53 xs ((rd_T38 ps x).f0 / 2)) [.int .u64 (rd_T53 xs ((rd_T38 ps x).f0 / 2)).f0, .slice A1 (rd_T53 xs ((rd_T38 ps x).f0 / 2)).f1.length c1, .slice A2 (rd_T53 xs ((rd_T38 ps x).f0 / 2)).f2.length c2] from Kd.FK_step HFa.out (fun k hk hlt => hp_.2.block k hlt (fun e_ => hk.2 (by injection e_))))
        have n2_ := Aside0.mk (show W2.grownBy (W2.setCells gl (((rd_T38 ps x).f0 / 2).toNat * 3) [.int .u64 (rd_T53 xs ((rd_T38 ps x).f1 / 2)).f0, .slice B1 (rd_T53 xs ((rd_T38 ps x).f1 / 2)).f1.length d1, .slice B2 (rd_T53 xs ((rd_T38 ps x).f1 / 2)).f2.length d2]) (some gl) from hp_.2)
        have n3_ := Aside0.mk (show (W2.setCells gl (((rd_T38 ps x).f0 / 2).toNat * 3) [.int .u64 (rd_T53 xs ((rd_T38 ps x).f1 / 2)).f0, .slice B1 (rd_T53 xs ((rd_T38 ps x).f1 / 2)).f1.length d1, .slice B2 (rd_T53 xs ((rd_T38 ps x).f1 / 2)).f2.length d2]).heap[gb]? = some (.cells #[.int .u64 (rd_T38 ps x).f0, .int .u64 (rd_T38 ps x).f1] 38 (0, 0)) from blk_grown BKgb.out hp_.2 (fun e_ => NE.out (by injection e_)))
        clear HN HFa hp_ BKgb
        have HN := n0_
        have HFa := n1_
        have HG1 := n2_
        have BKgb := n3_
        clear n0_ n1_ n2_ n3_
        refine hK.out _ _ ⟨(blk_cell BKgb.out 0).trans rfl, (blk_cell BKgb.out 1).trans rfl⟩ (fun hHeld => ?_)
        clear hK K
        generalize (W2.setCells gl (((rd_T38 ps x).f0 / 2).toNat * 3) [.int .u64 (rd_T53 xs ((rd_T38 ps x).f1 / 2)).f0, .slice B1 (rd_T53 xs ((rd_T38 ps x).f1 / 2)).f1.length d1, .slice B2 (rd_T53 xs ((rd_T38 ps x).f1 / 2)).f2.length d2]) = W3 at HN HFa HG1 BKgb ⊢
        refine pure_ (i := 22) (N := some 32) (v := ?_) (a' := ?_) #[true, true, true, true, true, true, true, true, true, true, true, true, true, true, true, true, true, true, true, true, true, true, true, false] rfl rfl (any_of HT_.out (by kernel_rfl)) (fun _ _ _ h => h) (Or.inl ⟨by rfl, ?_⟩) ?_ ?_
        rotate_left
        · intro w'
          go_simp
          with_reducible rfl
        rotate_left
        · simp only [Act.put, List.setIfInBounds_toArray, List.set_cons_zero, List.set_cons_succ, i64_w, i32_w]
          rfl
        refine one_ (i := 23) (N := none) #[true, true, true, true, true, true, true, true, true, true, true, true, true, true, true, true, true, true, true, true, true, true, true, true] rfl rfl (one_of HT_.out (by kernel_rfl)) (by decide) (fun K hK => ?_)
        refine skip_ (w1 := (W3.setCells gl (((rd_T38 ps x).f1 / 2).toNat * 3) [.int .u64 (rd_T53 xs ((rd_T38 ps x).f0 / 2)).f0, .slice A1 (rd_T53 xs ((rd_T38 ps x).f0 / 2)).f1.length c1, .slice A2 (rd_T53 xs ((rd_T38 ps x).f0 / 2)).f2.length c2])) (by rfl) rfl ?hrun ?_
        case hrun => exact N_store_run HN.out ((rd_T38 ps x).f1 / 2) qb0 qb1 HFa.out 53 (.tmp 32) (.tmp 30) (by rfl) (.agg #[.int .u64 (rd_T53 xs ((rd_T38 ps x).f0 / 2)).f0, .slice A1 (rd_T53 xs ((rd_T38 ps x).f0 / 2)).f1.length c1, .slice A2 (rd_T53 xs ((rd_T38 ps x).f0 / 2)).f2.length c2]) (by rfl) (by rfl) (by rfl) (by kernel_rfl)
        have hp_ := N_put_any HN.out ((rd_T38 ps x).f1 / 2) qb0 qb1 HFa.out (fun k hk => hk)
        have n0_ := Aside0.mk (show Kd.N k53 53 (W3.setCells gl (((rd_T38 ps x).f1 / 2).toNat * 3) [.int .u64 (rd_T53 xs ((rd_T38 ps x).f0 / 2)).f0, .slice A1 (rd_T53 xs ((rd_T38 ps x).f0 / 2)).f1.length c1, .slice A2 (rd_T53 xs ((rd_T38 ps x).f0 / 2)).f2.length c2]) B (fun _ => True) (.slice (some ⟨gl, 0, none⟩) xs.length cl) ((xs.set ((rd_T38 ps x).f0 / 2).toNat (rd_T53 xs ((rd_T38 ps x).f1 / 2))).set ((rd_T38 ps x).f1 / 2).toNat (rd_T53 xs ((rd_T38 ps x).f0 / 2))) from hp_.1)
        have n2_ := Aside0.mk (show W3.grownBy (W3.setCells gl (((rd_T38 ps x).f1 / 2).toNat * 3) [.int .u64 (rd_T53 xs ((rd_T38 ps x).f0 / 2)).f0, .slice A1 (rd_T53 xs ((rd_T38 ps x).f0 / 2)).f1.length c1, .slice A2 (rd_T53 xs ((rd_T38 ps x).f0 / 2)).f2.length c2]) (some gl) from hp_.2)
        have n3_ := Aside0.mk (show (W3.setCells gl (((rd_T38 ps x).f1 / 2).toNat * 3) [.int .u64 (rd_T53 xs ((rd_T38 ps x).f0 / 2)).f0, .slice A1 (rd_T53 xs ((rd_T38 ps x).f0 / 2)).f1.length c1, .slice A2 (rd_T53 xs ((rd_T38 ps x).f0 / 2)).f2.length c2]).heap[gb]? = some (.cells #[.int .u64 (rd_T38 ps x).f0, .int .u64 (rd_T38 ps x).f1] 38 (0, 0)) from blk_grown BKgb.out hp_.2 (fun e_ => NE.out (by injection e_)))
        clear HN hp_ BKgb
        have HN := n0_
        have HG2 := n2_
        have BKgb := n3_
        clear n0_ n2_ n3_
        refine hK.out _ _ ⟨(blk_cell BKgb.out 0).trans rfl, (blk_cell BKgb.out 1).trans rfl⟩ (fun hHeld => ?_)
        clear hK K
        generalize (W3.setCells gl (((rd_T38 ps x).f1 / 2).toNat * 3) [.int .u64 (rd_T53 xs ((rd_T38 ps x).f0 / 2)).f0, .slice A1 (rd_T53 xs ((rd_T38 ps x).f0 / 2)).f1.length c1, .slice A2 (rd_T53 xs ((rd_T38 ps x).f0 / 2)).f2.length c2]) = W4 at HN HG2 BKgb ⊢
        refine done_ (done_of HT_.out (by kernel_rfl)) ?_
        go_wp2
        go_roundg (gk - 1)
        case measure => have := HK.out; omega
        case rel => exact ⟨x + 1, (by first | rfl | go_num), by omega, by omega, ⟨by have := HK.out; omega⟩, ⟨by rw [HNX.out]; exact HN.out⟩, ⟨by repeat (first | exact ((below_step HB.out HC.out).grown HG1.out (below_step HB.out HC.out).size (fun k hk => by injection hk with hk; have := HGB.out; omega)).grown HG2.out (Nat.le_trans (below_step HB.out HC.out).size HG1.out.size) (fun k hk => by injection hk with hk; have := HGB.out; omega) | apply below_alloc | apply pw_below_drewN | apply below_drew1)⟩⟩
    · have c3b0 : decide (x < (ps.length : Int)) = false := decide_eq_false hlt
      have HE : ps.take x.toNat = ps := List.take_of_length_le (by omega)
      rw [HE] at HN
      go_wp2
      go_end0
      exact ⟨rfl, HN.out, HB.out⟩
end Go.Proofs.Ytiokegmpooildaa.Hp
