/- become.right: are pairs right, for so many objects? -/
import Derived.Test.YtiokegmpooildaaBo
import Derived.Test.YtiokegmpooildaaMp
namespace Go.Proofs.Ytiokegmpooildaa.Hp
open Go.RowKit Go.Proofs.YtiokegmpooildaaW.PrintWords Go.Proofs.YtiokegmpooildaaW.PrintLast Go.Proofs.YtiokegmpooildaaW.PrintMore Go.Proofs.Ytiokegmpooildaa.PAll
set_option linter.unusedVariables false
set_option linter.unusedSimpArgs false

/-- A slice literal (or another block of its own), for the walk. -/
theorem lit_event {P : Program} {ops : Array Oper} {rest : List Oper} {o : Oper} {a : Act} {Q : Exit → Act → World → Prop} {W : World} (hgd : o.guard = none) {N : Tmp} (_hd : o.dst = some N) (n : Nat) {cs : Array Value} {t : TypeId}
    (hrun : (execOp a.eval o).run P W = .ok (.value (.slice (some ⟨W.heap.size, 0, none⟩) n n)) (W.alloc (.cells cs t (0, 0))))
    (h : ∀ g, g = W.heap.size → ∀ w1, w1.heap[g]? = some (.cells cs t (0, 0)) → Below W.heap.size W w1 → wpList P ops Q rest (a.put o.dst (.slice (some ⟨g, 0, none⟩) n n)) w1) : wpList P ops Q (o :: rest) a W :=
  Kd.event_run hgd hrun (h _ rfl _ (blk_new W _) (below_alloc (Below.refl _ _) _))
/-- Are words references to n objects, no two the same, none of those seen? -/
def rightL (n : Nat) : (Int → Bool) → List Int → Bool
  | _, [] => true
  | s, w :: r => thereP n w && !s w && rightL n (fun k => if k = w then true else s k) r
def wordsOf : List S38 → List Int
  | [] => []
  | p :: r => p.f0 :: p.f1 :: wordsOf r
theorem rightL_no {n : Nat} {s : Int → Bool} {w : Int} {r : List Int} (h : (thereP n w && !s w) = false) : rightL n s (w :: r) = false := by
  unfold rightL
  rw [h, Bool.false_and]
theorem rightL_yes {n : Nat} {s : Int → Bool} {w : Int} {r : List Int} (h : (thereP n w && !s w) = true) : rightL n s (w :: r) = rightL n (fun k => if k = w then true else s k) r := by
  conv => lhs; unfold rightL
  rw [h, Bool.true_and]
theorem drop38 (ps : List S38) (x : Int) (h0 : 0 ≤ x) (h1 : x < (ps.length : Int)) : ps.drop x.toNat = rd_T38 ps x :: ps.drop (x + 1).toNat := by
  have e : (x + 1).toNat = x.toNat + 1 := by omega
  rw [e, List.drop_eq_getElem_cons (by omega)]
  unfold rd_T38
  rw [List.getD_eq_getElem?_getD, List.getElem?_eq_getElem (by omega)]
  rfl

section
variable {ops : Array Oper} {rest : List Oper} {o : Oper} {a : Act} {Q : Exit → Act → World → Prop} {W : World}
theorem mapmade_event (hgd : o.guard = none) (ho : o.op = .makeMap 114 none)
    (h : ∀ b w1, b = W.heap.size → MapB w1 b 0 (fun _ => false) → Below W.heap.size W w1 → wpList Try.prog ops Q rest (a.put o.dst (.map (some b))) w1) : wpList Try.prog ops Q (o :: rest) a W := by
  refine Kd.event_run hgd (w1 := W.alloc (.map #[] 0)) (v := .map (some W.heap.size)) ?_ (h _ _ rfl (MapB.made W) (below_alloc (Below.refl _ _) _))
  unfold execOp
  simp only [ho, Option.map_none, run_makeMap, Sem.run_bind, Sem.run_pure, Result.andThen_ok]
end
theorem two_drop (A B : Int) (L : List Int) (y : Int) (h0 : 0 ≤ y) (h1 : y < 2) : ∃ u, (A :: B :: L).drop y.toNat = u :: (A :: B :: L).drop (y + 1).toNat ∧ (u = A ∨ u = B) ∧ (#[Value.int .u64 A, .int .u64 B] : Array Value)[y.toNat]? = some (.int .u64 u) := by
  have : y = 0 ∨ y = 1 := by omega
  rcases this with rfl | rfl
  · exact ⟨A, rfl, Or.inl rfl, rfl⟩
  · exact ⟨B, rfl, Or.inr rfl, rfl⟩
theorem wordsOf_cons (p : S38) (r : List S38) : wordsOf (p :: r) = p.f0 :: p.f1 :: wordsOf r := rfl

set_option maxHeartbeats 16000000 in
set_option maxRecDepth 100000 in
theorem right_walk (n : Nat) (A : Option Addr) (c : Nat) (ps : List S38) (w : World) (hC : Kd.C k38 w A ps.length ps) (hps : ∀ p ∈ ps, W64 p.f0 ∧ W64 p.f1) (hm : ps.length ≤ 100000) (hn : n ≤ 5000) :
    Calls Try.prog 76 #[.int .i64 n, .slice A ps.length c] w fun e w' => e = .returned (.bool (rightL n (fun k => if k = 0 then true else false) (wordsOf ps))) ∧ Below w.heap.size w w' := by
  have HR := Aside0.mk hC
  have HP := Aside0.mk hps
  clear hC hps
  have HB := Aside0.mk (Below.refl w.heap.size w)
  obtain ⟨T, hT⟩ : ∃ T, T = rightL n (fun k => if k = 0 then true else false) (wordsOf ps) := ⟨_, rfl⟩
  rw [← hT]
  have HT := Aside0.mk hT
  clear hT
  go_enter Try.func76, Try.ntmps76
  go_wp2_with (first | ((with_reducible refine gate_dst (N := 12) rfl ?_); refine mapmade_event rfl rfl ?_; intro b wb hg hM hb; have HM := Aside0.mk hM; have GB := Aside0.mk (Nat.le_of_eq hg.symm); have n0_ := Aside0.mk (below_step HB.out hb); clear HB; have HB := n0_; clear n0_; clear hM hg hb) | (refine wpList_put_bool _ rfl _ _ _ (Or.inr rfl) b _ _ 0 true rfl rfl rfl (by unfold W64; omega) (by unfold maxLen; omega) HM.out ?_; intro w1 hM hg; have n0_ := Aside0.mk hM; have n1_ := Aside0.mk (HB.out.grown hg HB.out.size (fun k hk => by injection hk with hk; have := GB.out; omega)); clear HM HB; have HM := n0_; have HB := n1_; clear n0_ n1_ hM hg))
  go_loopg [16] ps.length (fun kq v16 w' => ∃ (x : Int) (m : Nat) (s : Int → Bool), v16 = .int .i64 x ∧ 0 ≤ x ∧ x ≤ ps.length ∧ Aside0 ((kq : Int) + x = ps.length) ∧ Aside0 ((m : Int) ≤ 1 + 2 * x) ∧ Aside0 (MapB w' b m s) ∧ Aside0 (rightL n s (wordsOf (ps.drop x.toNat)) = T) ∧ Aside0 (Below w.heap.size w w'))
  case atStart => exact ⟨0, _, _, rfl, by omega, by omega, ⟨by simp⟩, ⟨by omega⟩, HM, ⟨by rw [HT.out]; rfl⟩, HB⟩
  case round =>
    clear HM HB
    obtain ⟨x, m, s, rfl, p0, p1, HK, HMX, HM, HTT, HB⟩ := hrel
    by_cases hlt : x < (ps.length : Int)
    · have c3b0 : decide (x < (ps.length : Int)) = true := decide_eq_true hlt
      obtain ⟨ad, e0, hx0, hx1⟩ := at_T38 HR.out x p0 hlt
      cases e0
      replace hx0 := (HB.out.cell (World.block_lt_of_cell? w _ hx0)).trans hx0
      replace hx1 := (HB.out.cell (World.block_lt_of_cell? w _ hx1)).trans hx1
      have hpin := Aside0.mk (HP.out _ (rd38_mem p0 hlt))
      have HTX := Aside0.mk (HTT.out)
      rw [drop38 ps x p0 hlt, wordsOf_cons] at HTX
      have HC := Aside0.mk (Below.refl wr.heap.size wr)
      go_wp2_with (first | ((with_reducible refine gate_dst (N := 7) rfl ?_); refine box_event ?hg (N := 7) ?hd (cs := #[.int .u64 0, .int .u64 0]) (t := 38) ?hr ?_; (case hd => rfl); (case hg => rfl); (case hr => first | (go_simp; done) | (go_simp; rfl)); intro gb hg wbgb hbox hb; have n0_ := Aside0.mk (below_step (by repeat (first | (with_reducible first | exact HC.out | apply below_alloc | apply pw_below_drewN | apply below_drew1) | exact HC.out)) hb); have n1_ := Aside0.mk (hbox); have n2_ := Aside0.mk (by rw [hg]; exact below_size (by repeat (first | (with_reducible first | exact HC.out | apply below_alloc | apply pw_below_drewN | apply below_drew1) | exact HC.out)) : wr.heap.size ≤ gb); clear HC; have HC := n0_; have BKgb := n1_; have GEgb := n2_; clear n0_ n1_ n2_; clear hb hbox hg; have hzgb0 : wbgb.cell? ⟨gb, 0, none⟩ = some (.int .u64 0) := (blk_cell BKgb.out 0).trans rfl; have hfgb0 := blk_frozen BKgb.out 0; have hzgb1 : wbgb.cell? ⟨gb, 1, none⟩ = some (.int .u64 0) := (blk_cell BKgb.out 1).trans rfl; have hfgb1 := blk_frozen BKgb.out 1) | ((with_reducible refine gate_dst (N := 24) rfl ?_); refine lit_event (by rfl) (N := 24) rfl 2 (cs := #[.int .u64 (rd_T38 ps x).f0, .int .u64 (rd_T38 ps x).f1]) (t := 36) ?hrl ?_; (case hrl => first | (go_simp; done) | (go_simp; rfl)); intro gr hg wl hbox hb; have n0_ := Aside0.mk (below_step (by repeat (first | (with_reducible first | exact HC.out | refine below_set ?_ GEgb.out) | exact HC.out)) hb); have BKgr := Aside0.mk hbox; have GEgr := Aside0.mk (by rw [hg]; exact below_size (by repeat (first | (with_reducible first | exact HC.out | refine below_set ?_ GEgb.out) | exact HC.out)) : wr.heap.size ≤ gr); clear HC BKgb GEgb hzgb0 hzgb1 hfgb0 hfgb1; have HC := n0_; clear n0_; clear hb hbox hg))
      have n0_ := Aside0.mk (HM.out.below HC.out)
      have n1_ := Aside0.mk (below_step HB.out HC.out)
      have n2_ := Aside0.mk (Nat.le_trans (below_size HB.out) GEgr.out)
      have n3_ := Aside0.mk (show gr ≠ b from fun e_ => by have := HM.out.lt; have := GEgr.out; omega)
      clear HM HTT HB HC GEgr hx0 hx1
      have HM := n0_
      have HB := n1_
      have GEgr := n2_
      have NEgr := n3_
      clear n0_ n1_ n2_ n3_
      obtain ⟨ko, hko⟩ : ∃ ko : Nat, ko = gk := ⟨_, rfl⟩
      obtain ⟨wo, hwo⟩ : ∃ wo : World, wo = wl := ⟨_, rfl⟩
      rw [← hwo] at HM HB BKgr ⊢
      clear hwo
      go_loopg [26] 2 (fun kq v26 w' => ∃ (y : Int) (m2 : Nat) (s2 : Int → Bool), v26 = .int .i64 y ∧ 0 ≤ y ∧ y ≤ 2 ∧ Aside0 ((kq : Int) + y = 2) ∧ Aside0 ((m2 : Int) ≤ 1 + 2 * x + y) ∧ Aside0 (MapB w' b m2 s2) ∧ Aside0 (rightL n s2 (((rd_T38 ps x).f0 :: (rd_T38 ps x).f1 :: wordsOf (ps.drop (x + 1).toNat)).drop y.toNat) = T) ∧ Aside0 (w'.heap[gr]? = some (.cells #[.int .u64 (rd_T38 ps x).f0, .int .u64 (rd_T38 ps x).f1] 36 (0, 0))) ∧ Aside0 (Below w.heap.size w w'))
      case atStart => exact ⟨0, _, _, rfl, by omega, by omega, ⟨by simp⟩, ⟨by have := HMX.out; omega⟩, HM, HTX, BKgr, HB⟩
      case round =>
        clear HM HTX BKgr HB
        obtain ⟨y, m2, s2, rfl, q0, q1, HK2, HMX2, HM, HTX, BKgr, HB2⟩ := hrel
        by_cases hlt2 : y < 2
        · have d3b0 : decide (y < 2) = true := decide_eq_true hlt2
          obtain ⟨u, hdr, hor, hcell⟩ := two_drop (rd_T38 ps x).f0 (rd_T38 ps x).f1 (wordsOf (ps.drop (x + 1).toNat)) y q0 hlt2
          have UW := Aside0.mk (show W64 u from by rcases hor with e_ | e_ <;> rw [e_] <;> first | exact hpin.out.1 | exact hpin.out.2)
          have hcy : wr.cell? ⟨gr, y.toNat, none⟩ = some (.int .u64 u) := (blk_cell BKgr.out y.toNat).trans hcell
          obtain ⟨i, ok, hi, hth, hix, hi0⟩ := index_tells UW.out n hn
          have HI := Aside0.mk hi
          have HTX2 := Aside0.mk HTX.out
          rw [hdr] at HTX2
          clear HTX hdr hor hcell hi hix hi0
          have HC2 := Aside0.mk (Below.refl wr.heap.size wr)
          have qq0 : (0 ≤ y) = True := eq_true q0
          have qq1 : (y < 2) = True := eq_true hlt2
          cases ok with
          | false =>
            have HTE := Aside0.mk (HTX2.out.symm.trans (rightL_no (by rw [← hth]; rfl)))
            go_wp2_with (first | ((with_reducible refine gate_callee (f := 77) rfl ?_); refine goesL_ (some 32) rfl rfl Try.func77 (by kernel_rfl) rfl #[.int .u64 u] rfl (by (try simp only [List.map_toArray, List.map_cons, List.map_nil]); first | done | rfl | (simp only [List.length_drop, List.length_take]; rfl)) ?_; (with_reducible refine (word_Index.calls u i _ _ HI.out).mono ?_); rintro e w' ⟨rfl, ⟨nd, rfl⟩⟩; refine ⟨_, rfl, ?_⟩) | ((with_reducible refine gate_dst (N := 45) rfl ?_); (refine gate_guard (by rfl) ?_); dsimp only; refine wpList_look_bool _ rfl _ _ rfl b _ s2 u rfl rfl UW.out ((HM.out.below (by repeat (first | (with_reducible first | exact HC2.out | apply below_alloc | apply pw_below_drewN | apply below_drew1) | exact HC2.out)))) ?_))
            go_ret
            exact ⟨by rw [HTE.out]; rfl, below_step HB2.out (by repeat (first | (with_reducible first | exact HC2.out | apply below_alloc | apply pw_below_drewN | apply below_drew1) | exact HC2.out))⟩
          | true =>
            by_cases hin : i < (n : Int)
            · have e3b0 : decide ((n : Int) ≤ i) = false := decide_eq_false (by omega)
              have hth2 : thereP n u = true := by rw [← hth, decide_eq_true hin]; rfl
              cases hsu : s2 u with
              | true =>
                have HTE := Aside0.mk (HTX2.out.symm.trans (rightL_no (by rw [hsu, hth2]; rfl)))
                go_wp2_with (first | ((with_reducible refine gate_callee (f := 77) rfl ?_); refine goesL_ (some 32) rfl rfl Try.func77 (by kernel_rfl) rfl #[.int .u64 u] rfl (by (try simp only [List.map_toArray, List.map_cons, List.map_nil]); first | done | rfl | (simp only [List.length_drop, List.length_take]; rfl)) ?_; (with_reducible refine (word_Index.calls u i _ _ HI.out).mono ?_); rintro e w' ⟨rfl, ⟨nd, rfl⟩⟩; refine ⟨_, rfl, ?_⟩) | ((with_reducible refine gate_dst (N := 45) rfl ?_); (refine gate_guard (by rfl) ?_); dsimp only; refine wpList_look_bool _ rfl _ _ rfl b _ s2 u rfl rfl UW.out ((HM.out.below (by repeat (first | (with_reducible first | exact HC2.out | apply below_alloc | apply pw_below_drewN | apply below_drew1) | exact HC2.out)))) ?_))
                go_ret
                exact ⟨by rw [HTE.out]; rfl, below_step HB2.out (by repeat (first | (with_reducible first | exact HC2.out | apply below_alloc | apply pw_below_drewN | apply below_drew1) | exact HC2.out))⟩
              | false =>
                have HTE := Aside0.mk ((rightL_yes (by rw [hsu, hth2]; rfl)).symm.trans HTX2.out)
                have HM2 := Aside0.mk HM.out
                clear HM
                have hmx : m2 < maxLen := by have := HMX2.out; unfold maxLen; omega
                go_wp2_with (first | ((with_reducible refine gate_callee (f := 77) rfl ?_); refine goesL_ (some 32) rfl rfl Try.func77 (by kernel_rfl) rfl #[.int .u64 u] rfl (by (try simp only [List.map_toArray, List.map_cons, List.map_nil]); first | done | rfl | (simp only [List.length_drop, List.length_take]; rfl)) ?_; (with_reducible refine (word_Index.calls u i _ _ HI.out).mono ?_); rintro e w' ⟨rfl, ⟨nd, rfl⟩⟩; refine ⟨_, rfl, ?_⟩) | ((with_reducible refine gate_dst (N := 45) rfl ?_); (refine gate_guard (by rfl) ?_); dsimp only; refine wpList_look_bool _ rfl _ _ rfl b _ s2 u rfl rfl UW.out ((HM2.out.below (by repeat (first | (with_reducible first | exact HC2.out | apply below_alloc | apply pw_below_drewN | apply below_drew1) | exact HC2.out)))) ?_) | ((with_reducible refine gate_ (Op.mapUpdate 114 (.tmp 47) (.tmp 48) (.const (.bool true))) rfl ?_); refine wpList_put_bool _ rfl (.tmp 47) (.tmp 48) (.const (.bool true)) (Or.inl rfl) b _ s2 u true rfl rfl rfl UW.out hmx (HM2.out.below (by repeat (first | (with_reducible first | exact HC2.out | apply below_alloc | apply pw_below_drewN | apply below_drew1) | exact HC2.out))) ?_; intro w3 hM hg; have n0_ := Aside0.mk hM; have n1_ := Aside0.mk (show Below w.heap.size w (wr.drewN nd) from below_step HB2.out (by repeat (first | (with_reducible first | exact HC2.out | apply below_alloc | apply pw_below_drewN | apply below_drew1) | exact HC2.out))); have n3_ := Aside0.mk (n1_.out.grown hg n1_.out.size (fun k hk => by injection hk with hk; have := GB.out; omega)); have n4_ := Aside0.mk (blk_grown (show (wr.drewN nd).heap[gr]? = _ from BKgr.out) hg (fun e_ => NEgr.out (Option.some.inj e_))); clear HM2 HB2 HC2 BKgr n1_; have HM := n0_; have HB2 := n3_; have BKgr := n4_; clear n0_ n3_ n4_ hM hg))
                clear hmx
                go_roundg (gk - 1)
                case measure => have := HK2.out; omega
                case rel => exact ⟨y + 1, _, _, (by first | rfl | go_num), by omega, by omega, ⟨by have := HK2.out; omega⟩, ⟨by have := HMX2.out; omega⟩, HM, HTE, BKgr, HB2⟩
            · have e3b0 : decide ((n : Int) ≤ i) = true := decide_eq_true (by omega)
              have HTE := Aside0.mk (HTX2.out.symm.trans (rightL_no (by rw [← hth, decide_eq_false hin]; rfl)))
              go_wp2_with (first | ((with_reducible refine gate_callee (f := 77) rfl ?_); refine goesL_ (some 32) rfl rfl Try.func77 (by kernel_rfl) rfl #[.int .u64 u] rfl (by (try simp only [List.map_toArray, List.map_cons, List.map_nil]); first | done | rfl | (simp only [List.length_drop, List.length_take]; rfl)) ?_; (with_reducible refine (word_Index.calls u i _ _ HI.out).mono ?_); rintro e w' ⟨rfl, ⟨nd, rfl⟩⟩; refine ⟨_, rfl, ?_⟩) | ((with_reducible refine gate_dst (N := 45) rfl ?_); (refine gate_guard (by rfl) ?_); dsimp only; refine wpList_look_bool _ rfl _ _ rfl b _ s2 u rfl rfl UW.out ((HM.out.below (by repeat (first | (with_reducible first | exact HC2.out | apply below_alloc | apply pw_below_drewN | apply below_drew1) | exact HC2.out)))) ?_))
              go_ret
              exact ⟨by rw [HTE.out]; rfl, below_step HB2.out (by repeat (first | (with_reducible first | exact HC2.out | apply below_alloc | apply pw_below_drewN | apply below_drew1) | exact HC2.out))⟩
        · have d3b0 : decide (y < 2) = false := decide_eq_false hlt2
          obtain rfl : y = 2 := by omega
          go_wp2_with (fail)
          go_roundg (ko - 1)
          case measure => have := HK.out; rw [← hko] at this ⊢; omega
          case rel => exact ⟨x + 1, _, _, (by first | rfl | go_num), by omega, by omega, ⟨by have := HK.out; rw [← hko] at this; omega⟩, ⟨by have := HMX2.out; omega⟩, HM, ⟨HTX.out⟩, HB2⟩
    · have c3b0 : decide (x < (ps.length : Int)) = false := decide_eq_false hlt
      have HE : ps.drop x.toNat = [] := List.drop_of_length_le (by omega)
      have HTE := Aside0.mk (HTT.out)
      rw [HE] at HTE
      go_wp2
      go_ret
      exact ⟨by rw [← HTE.out]; rfl, HB.out⟩
end Go.Proofs.Ytiokegmpooildaa.Hp
