/- The heap that is read: all its objects, in new memory. -/
import Derived.Test.YtiokegmpooildaaHp
import Derived.Test.YtiokegmpooildaaPAllx1
import Derived.Outline
namespace Go.Proofs.Ytiokegmpooildaa.Hp
open Go.RowKit Go.Proofs.YtiokegmpooildaaW.PrintWords Go.Proofs.YtiokegmpooildaaW.PrintLast Go.Proofs.YtiokegmpooildaaW.PrintMore Go.Proofs.Ytiokegmpooildaa.PAll
set_option linter.unusedVariables false
set_option linter.unusedSimpArgs false

/-- So few and so small objects that nothing of them passes a bound. -/
def SmallL (l : List S53) : Prop := l.length ≤ 5000 ∧ ∀ x ∈ l, x.f1.length ≤ 100000 ∧ x.f2.length ≤ 100000
theorem SmallL.at_ {l : List S53} (h : SmallL l) (i : Int) (h0 : 0 ≤ i) (h1 : i < (l.length : Int)) : (rd_T53 l i).f1.length ≤ 100000 ∧ (rd_T53 l i).f2.length ≤ 100000 := by
  unfold rd_T53
  rw [List.getD_eq_getElem?_getD, List.getElem?_eq_getElem (by omega)]
  exact h.2 _ (List.getElem_mem _)
theorem clone_f (x : S53) (h : x.f1.length ≤ 100000 ∧ x.f2.length ≤ 100000) : heap_clone.f x.f0 x.f1 x.f2 = some (x.f0, x.f1, x.f2) := by
  unfold heap_clone.f api_Word_73.f bytes_Clone.f
  rw [if_pos (by omega), if_pos (by omega)]
  rfl
theorem take_next (l : List S53) (i : Int) (h0 : 0 ≤ i) (h1 : i < (l.length : Int)) : l.take (i + 1).toNat = l.take i.toNat ++ [rd_T53 l i] := by
  have e : (i + 1).toNat = i.toNat + 1 := by omega
  rw [e, List.take_succ_eq_append_getElem (by omega)]
  unfold rd_T53
  rw [List.getD_eq_getElem?_getD, List.getElem?_eq_getElem (by omega)]
  rfl

theorem row_new {α : Type} {d : Kd α} {e B : Nat} {W0 W W1 : World} {v : Value} {xs : List α} (h : d.R e W1 W.heap.size (fun _ => True) v xs) (hle : W0.heap.size ≤ W.heap.size) (hB : B ≤ W0.heap.size) : d.R e W1 B (fun k => W0.heap.size ≤ k) v xs :=
  Kd.R_mono (Kd.R_lower (Kd.R_bound h) (Nat.le_trans hB hle)) (fun _ hk => Nat.le_trans hle hk.2.1)
theorem info53_ : (Try.prog.info? 53).map (fun i => (i.zero, i.size, i.bytes)) = some (some (.agg #[(.int .u64 0), (.slice none 0 0), (.slice none 0 0)]), 3, 56) := by kernel_rfl
set_option maxHeartbeats 8000000 in
set_option maxRecDepth 100000 in
theorem heap_Objects (g : Nat) (l : List S53) (o wd u : Int) (w : World) (hH : HeapC w g l o wd u) (hs : SmallL l) :
    Calls Try.prog 18 #[.pointer (some ⟨g, 0, none⟩)] w fun e w' => ∃ v0_ : Value, e = .returned v0_ ∧ Kd.S k53 53 w' w.heap.size (fun _ => True) v0_ l ∧ Below w.heap.size w w' := by
  have hu53 := Try.underlying53
  have HS := Aside0.mk hs
  have hl0 : l.length ≤ 5000 := hs.1
  clear hs
  obtain ⟨A, c, h1, h2, h3⟩ := hH
  have hc0 : w.cell? ⟨g, 0, none⟩ = some (.slice A l.length c) := (blk_cell h1 0).trans rfl
  have HR := Aside0.mk h3
  clear h1 h3
  go_enter Try.func18, Try.ntmps18
  go_wp2
  go_loopg [3, 11] l.length (fun kq v3 v11 w' => ∃ x : Int, v11 = .int .i64 x ∧ 0 ≤ x ∧ x ≤ l.length ∧ Aside0 ((kq : Int) + x = l.length) ∧ Aside0 (Kd.S k53 53 w' w.heap.size (fun _ => True) v3 (l.take x.toNat)) ∧ Aside0 (Below w.heap.size w w'))
  case atStart => exact ⟨0, rfl, by omega, by omega, ⟨by simp⟩, ⟨by rw [Int.toNat_zero, List.take_zero]; exact Kd.S_nil _ _ _ _ _⟩, ⟨Below.refl _ _⟩⟩
  case round =>
    obtain ⟨x, rfl, p0, p1, HK, HO, HB⟩ := hrel
    by_cases hlt : x < (l.length : Int)
    · obtain ⟨ad, A1, c1, A2, c2, e0, hx0, hx1, hx2, hl1, hi1, hl2, hi2⟩ := at_T53 HR.out x p0 hlt
      cases e0
      replace hx0 := (HB.out.cell (World.block_lt_of_cell? w _ hx0)).trans hx0
      replace hx1 := (HB.out.cell (World.block_lt_of_cell? w _ hx1)).trans hx1
      replace hx2 := (HB.out.cell (World.block_lt_of_cell? w _ hx2)).trans hx2
      have HR1 := Aside0.mk hi1
      have HL1 := Aside0.mk hl1
      clear hi1 hl1
      have HR2 := Aside0.mk hi2
      have HL2 := Aside0.mk hl2
      clear hi2 hl2
      have HF := Aside0.mk (clone_f _ (HS.out.at_ x p0 hlt))
      have HC := Aside0.mk (Below.refl wr.heap.size wr)
      have c3b0 : decide (x < (l.length : Int)) = true := decide_eq_true hlt
      go_wp2_with (first | ((with_reducible refine gate_dst (N := 5) rfl ?_); refine box_event ?hg (N := 5) ?hd (cs := #[.int .u64 0, .slice none 0 0, .slice none 0 0]) (t := 53) ?hr ?_; (case hd => rfl); (case hg => rfl); (case hr => first | (go_simp; done) | (go_simp; rfl)); intro gb hg w8 hbox hb; have n0_ := Aside0.mk (below_step (by repeat (first | (with_reducible first | exact HC.out | apply below_alloc | apply pw_below_drewN | apply below_drew1) | exact HC.out)) hb); have n1_ := Aside0.mk hbox; have n2_ := Aside0.mk (by rw [hg]; exact below_size (by repeat (first | (with_reducible first | exact HC.out | apply below_alloc | apply pw_below_drewN | apply below_drew1) | exact HC.out)) : wr.heap.size ≤ gb); clear HC; have HC := n0_; have BK := n1_; have GE := n2_; clear n0_ n1_ n2_; clear hb hbox hg; have hz0 : w8.cell? ⟨gb, 0, none⟩ = some (.int .u64 0) := (blk_cell BK.out 0).trans rfl; have hz1 : w8.cell? ⟨gb, 1, none⟩ = some (.slice none 0 0) := (blk_cell BK.out 1).trans rfl; have hz2 : w8.cell? ⟨gb, 2, none⟩ = some (.slice none 0 0) := (blk_cell BK.out 2).trans rfl; have hf0 := blk_frozen BK.out 0; have hf1 := blk_frozen BK.out 1; have hf2 := blk_frozen BK.out 2) | ((with_reducible refine gate_callee (f := 52) rfl ?_); refine goesL_ (some 17) rfl rfl Try.func52 (by kernel_rfl) rfl #[.agg #[.int .u64 ((rd_T53 l x).f0), .slice A1 ((rd_T53 l x).f1).length c1, .slice A2 ((rd_T53 l x).f2).length c2]] rfl (by (try simp only [List.map_toArray, List.map_cons, List.map_nil]); first | done | rfl) ?_; (with_reducible refine (heap_clone.calls _ _ _ ((rd_T53 l x).f1) _ _ ((rd_T53 l x).f2) _ _ _ _ ?side1 ?side2 ?side3 ?side4 HF.out).mono ?_); (case side1 => exact Kd.C_below HR1.out (below_step HB.out (by repeat (first | (with_reducible first | exact HC.out | apply below_alloc | apply pw_below_drewN | apply below_drew1 | refine below_set ?_ GE.out) | exact HC.out)))); (case side2 => exact HL1.out); (case side3 => exact Kd.C_below HR2.out (below_step HB.out (by repeat (first | (with_reducible first | exact HC.out | apply below_alloc | apply pw_below_drewN | apply below_drew1 | refine below_set ?_ GE.out) | exact HC.out)))); (case side4 => exact HL2.out); rintro e w9 ⟨v1, v2, rfl, ho1, ho2, hb⟩; refine ⟨_, rfl, ?_⟩; have n0_ := Aside0.mk (row_new ho1 (below_size (by repeat (first | (with_reducible first | exact HC.out | apply below_alloc | apply pw_below_drewN | apply below_drew1 | refine below_set ?_ GE.out) | exact HC.out))) HB.out.size); have n1_ := Aside0.mk (row_new ho2 (below_size (by repeat (first | (with_reducible first | exact HC.out | apply below_alloc | apply pw_below_drewN | apply below_drew1 | refine below_set ?_ GE.out) | exact HC.out))) HB.out.size); have n2_ := Aside0.mk (below_step (by repeat (first | (with_reducible first | exact HC.out | apply below_alloc | apply pw_below_drewN | apply below_drew1 | refine below_set ?_ GE.out) | exact HC.out)) hb); clear HC; have HO1 := n0_; have HO2 := n1_; have HC := n2_; clear n0_ n1_ n2_; clear ho1 ho2 hb; obtain ⟨Ao1, co1, eo1⟩ := Kd.R_slice HO1.out; subst eo1; obtain ⟨Ao2, co2, eo2⟩ := Kd.R_slice HO2.out; subst eo2) | ((with_reducible refine gate_builtin (b := .append) (xs := #[.tmp 15, .tmp 18]) rfl ?_); at_builtin; refine Kd.S_append k53 (w0 := w) w.heap.size rfl (.tmp 15) (.tmp 18) 22 53 (.agg #[(.int .u64 0), (.slice none 0 0), (.slice none 0 0)]) 56 rfl Try.underlying22 info53_ rfl (by decide) (by omega) _ (l.take x.toNat) (rd_T53 l x) [.int .u64 ((rd_T53 l x).f0), .slice Ao1 ((rd_T53 l x).f1).length co1, .slice Ao2 ((rd_T53 l x).f2).length co2] (fun _ => True) (fun k => wr.heap.size ≤ k) rfl rfl ?aP ?aN (fun _ _ => trivial) ?aO ?aB ?aS ?aL ?_; (case aP => exact k53_mkM _ _ _ (rd_T53 l x) HO1.out HO2.out); (case aN => exact fun k hk => ⟨trivial, fun e_ => by have := Kd.R_lt (Kd.S_R HO.out) k e_.symm; omega⟩); (case aO => exact Kd.S_mono (Kd.S_old HO.out (by repeat (first | (with_reducible first | exact HC.out | apply below_alloc | apply pw_below_drewN | apply below_drew1) | exact HC.out))) (fun k hk => ⟨trivial, by have := hk.2; omega⟩)); (case aB => exact below_step HB.out (by repeat (first | (with_reducible first | exact HC.out | apply below_alloc | apply pw_below_drewN | apply below_drew1) | exact HC.out))); (case aS => exact Nat.le_trans HB.out.size (below_size (by repeat (first | (with_reducible first | exact HC.out | apply below_alloc | apply pw_below_drewN | apply below_drew1) | exact HC.out)))); (case aL => rw [List.length_take]; omega); intro v9 w10 ho hb hg hat; rw [← take_next l x p0 hlt] at ho; have n0_ := Aside0.mk ho; have n1_ := Aside0.mk hb; clear HO HB HC; have HO := n0_; have HB := n1_; clear n0_ n1_; clear ho hb hg hat))
      go_roundg (gk - 1)
      case measure => have := HK.out; omega
      case rel => exact ⟨x + 1, (by first | rfl | (simp; done) | go_num), by omega, by omega, ⟨by have := HK.out; omega⟩, HO, HB⟩
    · have c3b0 : decide (x < (l.length : Int)) = false := decide_eq_false hlt
      have HE := Aside0.mk (show l.take x.toNat = l from List.take_of_length_le (by omega))
      go_wp2
      go_ret
      exact ⟨_, rfl, by have := HO.out; rw [HE.out] at this; exact this, HB.out⟩
end Go.Proofs.Ytiokegmpooildaa.Hp
