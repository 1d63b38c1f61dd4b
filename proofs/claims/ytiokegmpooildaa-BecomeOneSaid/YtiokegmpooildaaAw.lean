/- Chapter 20's example: it holds. -/
import Derived.Test.YtiokegmpooildaaBb
import Derived.Test.YtiokegmpooildaaOj
namespace Go.Proofs.Ytiokegmpooildaa.Hp
open Go.RowKit Go.Proofs.YtiokegmpooildaaW.PrintWords Go.Proofs.YtiokegmpooildaaW.PrintLast Go.Proofs.YtiokegmpooildaaW.PrintMore Go.Proofs.Ytiokegmpooildaa.PAll
set_option linter.unusedVariables false
set_option linter.unusedSimpArgs false

theorem flat_get {sz : Nat} : ∀ (css : List (List Value)) (_ : ∀ c ∈ css, c.length = sz) (j i : Nat) (c : List Value) (u : Value), css[j]? = some c → c[i]? = some u → css.flatten[j * sz + i]? = some u
  | [], _, j, i, c, u, h, _ => by simp at h
  | c0 :: r, hl, 0, i, c, u, h, hu => by
    have e : c0 = c := by simpa using h
    subst e
    have hi : i < c0.length := (List.getElem?_eq_some_iff.1 hu).1
    rw [List.flatten_cons, Nat.zero_mul, Nat.zero_add, List.getElem?_append_left hi]
    exact hu
  | c0 :: r, hl, j + 1, i, c, u, h, hu => by
    have h0 : c0.length = sz := hl c0 (List.mem_cons_self ..)
    have e : (j + 1) * sz + i = c0.length + (j * sz + i) := by rw [h0, Nat.succ_mul]; omega
    rw [List.flatten_cons, e, List.getElem?_append_right (by omega), Nat.add_sub_cancel_left]
    exact flat_get r (fun c hc => hl c (List.mem_cons_of_mem _ hc)) j i c u (by simpa using h) hu
/-- What lies in one block, row by row, reads as a list. -/
theorem C_block {α : Type} {d : Kd α} {W : World} {g : Nat} {cells : Array Value} {t : TypeId} {fr : Nat × Nat} (h : W.heap[g]? = some (.cells cells t fr)) (xs : List α) (css : List (List Value)) (hc : cells.toList = css.flatten) (hl : css.length = xs.length) (hn : xs.length ≤ 9223372036854775807)
    (hk : ∀ (j : Nat) x c, xs[j]? = some x → css[j]? = some c → c.length = d.sz ∧ d.K W x c) : Kd.C d W (some ⟨g, 0, none⟩) xs.length xs := by
  refine ⟨rfl, hn, fun _ => ⟨⟨g, 0, none⟩, rfl, fun j x hx => ?_⟩⟩
  have hj : j < css.length := by rw [hl]; exact (List.getElem?_eq_some_iff.1 hx).1
  have hcj := List.getElem?_eq_getElem hj
  have hall : ∀ c ∈ css, c.length = d.sz := by
    intro c hc
    obtain ⟨k, hk1, hk2⟩ := List.getElem_of_mem hc
    have hkx : k < xs.length := by omega
    exact (hk k _ c (List.getElem?_eq_getElem hkx) (by rw [List.getElem?_eq_getElem hk1, hk2])).1
  refine ⟨css[j], (hk j x _ hx hcj).1, (hk j x _ hx hcj).2, fun i u hu => ?_⟩
  have h1 := flat_get css hall j i _ u hcj hu
  rw [← hc, Array.getElem?_toList] at h1
  have ea : W.cell? ((⟨g, 0, none⟩ : Addr).add (j * d.sz + i)) = cells[j * d.sz + i]? := by
    unfold Addr.add
    split
    · rename_i h0
      simp [World.cell?, h, h0]
    · simp [World.cell?, h]
  exact ea.trans h1
/-- '[]byte' of a constant string: the row is marked behind its last cell. -/
theorem mark_event {P : Program} {ops : Array Oper} {rest : List Oper} {o : Oper} {a : Act} {Q : Exit → Act → World → Prop} {W : World} (hgd : o.guard = none) {N : Tmp} (_hd : o.dst = some N) (t e : TypeId) (x : Operand) (ho : o.op = .convert t t x)
    (ht : P.underlying t = some (.slice e)) (he : P.underlying e = some (.int .u8)) (g n c : Nat) (C : Array Value) (hx : a.eval x = .slice (some ⟨g, 0, none⟩) n c) (hh : W.heap[g]? = some (.cells C e (0, 0)))
    (h : ∀ w1, w1.heap[g]? = some (.cells C e (C.size, C.size + 1)) → W.grownBy w1 (some g) → wpList P ops Q rest (a.put o.dst (.slice (some ⟨g, 0, none⟩) n c)) w1) : wpList P ops Q (o :: rest) a W := by
  have hsh : W.shape? g = some (e, C.size) := by
    unfold World.shape?
    rw [hh]
  have hlt : g < W.heap.size := blk_lt hh
  refine Kd.event_run (w1 := W.freeze ⟨g, C.size, none⟩ 1) (v := .slice (some ⟨g, 0, none⟩) n c) hgd ?_ (h _ ?_ ⟨rfl, rfl, rfl, ?_, fun k hk hne => ?_⟩)
  · unfold execOp
    simp only [ho, hx, Sem.run_bind]
    simp [convert, run_underlying ht, run_underlying he, markStringish, hsh]
  · unfold World.freeze
    rw [if_neg (by decide)]
    show (W.heap.modify g _)[g]? = _
    rw [Array.getElem?_modify, if_pos rfl, hh]
    rfl
  · unfold World.freeze
    rw [if_neg (by decide)]
    exact Nat.le_of_eq (Array.size_modify ..).symm
  · unfold World.freeze
    rw [if_neg (by decide)]
    show (W.heap.modify g _)[k]? = _
    rw [Array.getElem?_modify, if_neg (fun e_ => hne (by rw [e_]))]

/-- 'string(b)', for the walk. -/
theorem str_event {P : Program} {ops : Array Oper} {rest : List Oper} {o : Oper} {a : Act} {Q : Exit → Act → World → Prop} {W : World} (hgd : o.guard = none) (t s e : TypeId) (x : Operand) (ho : o.op = .convert t s x)
    (ht : P.underlying t = some (.slice e)) (he : P.underlying e = some (.int .u8)) (hs : P.underlying s = some .string) (A : Option Addr) (n c : Nat) (xs : List Int) (hx : a.eval x = .slice A n c) (hC : Kd.C (Kd.int .u8) W A n xs)
    (h : wpList P ops Q rest (a.put o.dst (.string (strOfNums xs))) W) : wpList P ops Q (o :: rest) a W := by
  refine Kd.event_run (w1 := W) (v := .string (strOfNums xs)) hgd ?_ h
  unfold execOp
  simp only [ho, hx, Sem.run_bind, Kd.C_string ht he hs hC, Result.andThen_ok, Sem.run_pure]
def exP : List S38 := [⟨2, 4⟩]

def exL : List S53 := [⟨0, [], []⟩, ⟨0, [], [97]⟩, ⟨0, [], [98]⟩]
set_option maxHeartbeats 16000000 in
set_option maxRecDepth 100000 in
theorem awake20 (w : World) : Calls Try.prog 12 #[] w fun e w' => e = .returned (.bool true) ∧ Below w.heap.size w w' := by
  have HC := Aside0.mk (Below.refl w.heap.size w)
  go_enter Try.func12, Try.ntmps12
  go_wp2_with (first | ((with_reducible refine gate_dst (N := 9) rfl ?_); refine lit_event (by rfl) (N := 9) rfl 1 (cs := #[.int .u8 97]) (t := 5) ?hrl ?_; (case hrl => first | (go_simp; done) | (go_simp; rfl)); intro ga hg wga hbox hb; have n0_ := Aside0.mk (below_step (by repeat (first | (with_reducible first | exact HC.out | apply below_alloc | apply pw_below_drewN | apply below_drew1) | exact HC.out)) hb); have BKga := Aside0.mk hbox; have GEga := Aside0.mk (show w.heap.size ≤ ga by rw [hg]; exact below_size (by repeat (first | (with_reducible first | exact HC.out | apply below_alloc | apply pw_below_drewN | apply below_drew1) | exact HC.out))); clear HC; have HC := n0_; clear n0_; clear hb hbox hg) | ((with_reducible refine gate_dst (N := 12) rfl ?_); refine lit_event (by rfl) (N := 12) rfl 1 (cs := #[.int .u8 98]) (t := 5) ?hrl ?_; (case hrl => first | (go_simp; done) | (go_simp; rfl)); intro gb hg wgb hbox hb; have n0_ := Aside0.mk (below_step (by repeat (first | (with_reducible first | exact HC.out | apply below_alloc | apply pw_below_drewN | apply below_drew1) | exact HC.out)) hb); have BKgb := Aside0.mk hbox; have GEgb := Aside0.mk (show w.heap.size ≤ gb by rw [hg]; exact below_size (by repeat (first | (with_reducible first | exact HC.out | apply below_alloc | apply pw_below_drewN | apply below_drew1) | exact HC.out))); have NEgagb := Aside0.mk (show ga ≠ gb from fun e_ => by have := blk_lt BKga.out; rw [e_, hg] at this; exact Nat.lt_irrefl _ this); have n1_ := Aside0.mk (blk_below BKga.out hb); clear BKga; have BKga := n1_; clear n1_; clear HC; have HC := n0_; clear n0_; clear hb hbox hg) | ((with_reducible refine gate_dst (N := 15) rfl ?_); refine lit_event (by rfl) (N := 15) rfl 3 (cs := #[.int .u64 0, .slice none 0 0, .slice none 0 0, .int .u64 0, .slice none 0 0, .slice (some ⟨ga, 0, none⟩) 1 1, .int .u64 0, .slice none 0 0, .slice (some ⟨gb, 0, none⟩) 1 1]) (t := 53) ?hrl ?_; (case hrl => first | (go_simp; done) | (go_simp; rfl)); intro gl hg wgl hbox hb; have n0_ := Aside0.mk (below_step (by repeat (first | (with_reducible first | exact HC.out | apply below_alloc | apply pw_below_drewN | apply below_drew1) | exact HC.out)) hb); have BKgl := Aside0.mk hbox; have GEgl := Aside0.mk (show w.heap.size ≤ gl by rw [hg]; exact below_size (by repeat (first | (with_reducible first | exact HC.out | apply below_alloc | apply pw_below_drewN | apply below_drew1) | exact HC.out))); have NEgagl := Aside0.mk (show ga ≠ gl from fun e_ => by have := blk_lt BKga.out; rw [e_, hg] at this; exact Nat.lt_irrefl _ this); have n1_ := Aside0.mk (blk_below BKga.out hb); clear BKga; have BKga := n1_; clear n1_; have NEgbgl := Aside0.mk (show gb ≠ gl from fun e_ => by have := blk_lt BKgb.out; rw [e_, hg] at this; exact Nat.lt_irrefl _ this); have n1_ := Aside0.mk (blk_below BKgb.out hb); clear BKgb; have BKgb := n1_; clear n1_; clear HC; have HC := n0_; clear n0_; clear hb hbox hg) | ((with_reducible refine gate_dst (N := 10) rfl ?_); refine mark_event (by rfl) (N := 10) rfl 51 5 _ rfl Try.underlying51 Try.underlying5 ga 1 1 #[.int .u8 97] rfl BKga.out ?_; intro wmga hbox hg; have n0_ := Aside0.mk (HC.out.grown hg HC.out.size (fun k hk => by have := Option.some.inj hk; have := GEga.out; omega)); clear HC BKga; have HC := n0_; have BKga := Aside0.mk hbox; clear n0_ hbox hg) | ((with_reducible refine gate_dst (N := 13) rfl ?_); refine mark_event (by rfl) (N := 13) rfl 51 5 _ rfl Try.underlying51 Try.underlying5 gb 1 1 #[.int .u8 98] rfl BKgb.out ?_; intro wmgb hbox hg; have m0_ := Aside0.mk (blk_grown BKga.out hg (fun e_ => NEgagb.out (Option.some.inj e_))); have n0_ := Aside0.mk (HC.out.grown hg HC.out.size (fun k hk => by have := Option.some.inj hk; have := GEgb.out; omega)); clear HC BKgb; have HC := n0_; have BKgb := Aside0.mk hbox; clear BKga; have BKga := m0_; clear m0_; clear n0_ hbox hg))
  have HCL := Aside0.mk (show Kd.C k53 wgl (some ⟨gl, 0, none⟩) exL.length exL from C_block BKgl.out exL [[.int .u64 0, .slice none 0 0, .slice none 0 0], [.int .u64 0, .slice none 0 0, .slice (some ⟨ga, 0, none⟩) 1 1], [.int .u64 0, .slice none 0 0, .slice (some ⟨gb, 0, none⟩) 1 1]] rfl rfl (by decide) (by
    have ca : Kd.C (Kd.int .u8) wgl (some ⟨ga, 0, none⟩) 1 [97] := C_block BKga.out [97] [[.int .u8 97]] rfl rfl (by decide) (fun j x c hx hc => by
      match j with
      | 0 => obtain rfl := Option.some.inj hx; obtain rfl := Option.some.inj hc; exact ⟨rfl, rfl⟩
      | j + 1 => simp at hx)
    have cb : Kd.C (Kd.int .u8) wgl (some ⟨gb, 0, none⟩) 1 [98] := C_block BKgb.out [98] [[.int .u8 98]] rfl rfl (by decide) (fun j x c hx hc => by
      match j with
      | 0 => obtain rfl := Option.some.inj hx; obtain rfl := Option.some.inj hc; exact ⟨rfl, rfl⟩
      | j + 1 => simp at hx)
    have cn : Kd.C (Kd.int .u64) wgl none 0 [] := ⟨rfl, by decide, fun h => absurd h (by decide)⟩
    have cn8 : Kd.C (Kd.int .u8) wgl none 0 [] := ⟨rfl, by decide, fun h => absurd h (by decide)⟩
    intro j x c hx hc
    match j with
    | 0 => obtain rfl := Option.some.inj hx; obtain rfl := Option.some.inj hc; exact ⟨rfl, k53_mk wgl ⟨0, [], []⟩ (c1 := 0) (by decide) cn (c2 := 0) (by decide) cn8⟩
    | 1 => obtain rfl := Option.some.inj hx; obtain rfl := Option.some.inj hc; exact ⟨rfl, k53_mk wgl ⟨0, [], [97]⟩ (c1 := 0) (by decide) cn (c2 := 1) (by decide) ca⟩
    | 2 => obtain rfl := Option.some.inj hx; obtain rfl := Option.some.inj hc; exact ⟨rfl, k53_mk wgl ⟨0, [], [98]⟩ (c1 := 0) (by decide) cn (c2 := 1) (by decide) cb⟩
    | j + 3 => simp [exL] at hx))
  have HS := Aside0.mk (show SmallL exL by unfold SmallL exL; decide)
  have HW := Aside0.mk (show WordsL exL by unfold WordsL W64 exL; decide)
  have HO := Aside0.mk (show roomP 5 20 by unfold roomP; decide)
  have HER := Aside0.mk (show ofErr exL 5 20 = 0 by decide)
  refine (of_room (some ⟨gl, 0, none⟩) 3 exL 5 20 _ HCL.out (Nat.le_refl _) HS.out HW.out HO.out).mono ?_
  rintro e w' ⟨hy, hn, hb⟩
  obtain ⟨gh, rfl, hg⟩ := hy HER.out
  have n0_ := Aside0.mk (below_step (by repeat (first | (with_reducible first | exact HC.out | apply below_alloc | apply pw_below_drewN | apply below_drew1) | exact HC.out)) hb)
  have HH := Aside0.mk hg.reads
  clear HC hy hn hb hg HCL BKga BKgb BKgl GEga GEgb GEgl NEgagb NEgagl NEgbgl
  have HC := n0_
  clear n0_
  go_wp2_with (first | ((with_reducible refine gate_dst (N := 22) rfl ?_); refine lit_event (by rfl) (N := 22) rfl 1 (cs := #[.int .u64 2, .int .u64 4]) (t := 38) ?hrl ?_; (case hrl => first | (go_simp; done) | (go_simp; rfl)); intro gp hg wgp hbox hb; have n0_ := Aside0.mk (below_step (by repeat (first | (with_reducible first | exact HC.out | apply below_alloc | apply pw_below_drewN | apply below_drew1) | exact HC.out)) hb); have BKgp := Aside0.mk hbox; have GEgp := Aside0.mk (show w.heap.size ≤ gp by rw [hg]; exact below_size (by repeat (first | (with_reducible first | exact HC.out | apply below_alloc | apply pw_below_drewN | apply below_drew1) | exact HC.out))); clear HC; have HC := n0_; clear n0_; have hb2_ := hb; clear hb hbox hg; have h2_ := Aside0.mk (HH.out.below hb2_); clear HH hb2_; have HH := h2_; clear h2_))
  have HPC := Aside0.mk (show Kd.C k38 wgp (some ⟨gp, 0, none⟩) exP.length exP from C_block BKgp.out exP [[.int .u64 2, .int .u64 4]] rfl rfl (by decide) (by
    intro j x c hx hc
    match j with
    | 0 => obtain rfl := Option.some.inj hx; obtain rfl := Option.some.inj hc; exact ⟨rfl, k38_mk wgp ⟨2, 4⟩⟩
    | j + 1 => simp [exP] at hx))
  refine (become_both gh (some ⟨gp, 0, none⟩) 1 exP exL 5 20 _ _ HH.out HS.out HW.out HO.out HPC.out (Nat.le_refl _) (by unfold exP W64; decide) (by decide) HER.out).mono ?_
  rintro e w3 ⟨hy, hn, hb⟩
  obtain ⟨gn, rfl, hg⟩ := hy (by decide)
  have n0_ := Aside0.mk (below_step (by repeat (first | (with_reducible first | exact HC.out | apply below_alloc | apply pw_below_drewN | apply below_drew1) | exact HC.out)) hb)
  have HN := Aside0.mk hg.reads
  clear HC hy hn hb hg HPC BKgp GEgp HH HS HW HO HER
  have HC := n0_
  clear n0_
  have HS2 := Aside0.mk (show SmallL (swapN exL exP) by unfold SmallL; decide)
  have HW2 := Aside0.mk (show W64 2 by unfold W64; decide)
  have HTR := Aside0.mk (show thereP (swapN exL exP).length 2 = true by decide)
  have HF1 := Aside0.mk (show (objectL (swapN exL exP) 2).f1 = [] by decide)
  have HF2 := Aside0.mk (show (objectL (swapN exL exP) 2).f2 = [98] by decide)
  go_wp2_with (first | ((with_reducible refine gate_callee (f := 47) rfl ?_); refine goesL_ (some 34) rfl rfl Try.func47 (by kernel_rfl) rfl #[.pointer (some ⟨gn, 0, none⟩), .int .u64 2] rfl (by (try simp only [List.map_toArray, List.map_cons, List.map_nil]); first | done | rfl | (simp only [List.length_drop, List.length_take]; rfl)) ?_; (with_reducible refine (heap_Object gn 2 (swapN exL exP) 5 20 _ _ HN.out HS2.out HW2.out).mono ?_); rintro e w4 ⟨v1, v2, rfl, hv1, hv2, hb⟩; rw [HTR.out]; rw [HF1.out] at hv1; rw [HF2.out] at hv2; obtain ⟨Ao1, co1, eo1⟩ := Kd.R_slice hv1; obtain ⟨Ao2, co2, eo2⟩ := Kd.R_slice hv2; subst eo1; subst eo2; have HV := Aside0.mk (Kd.R_reads' hv2).2.2; have n0_ := Aside0.mk (below_step (by repeat (first | (with_reducible first | exact HC.out | apply below_alloc | apply pw_below_drewN | apply below_drew1) | exact HC.out)) hb); clear HC hv1 hv2 hb; have HC := n0_; clear n0_; refine ⟨_, rfl, ?_⟩) | ((with_reducible refine gate_dst (N := 5) rfl ?_); refine box_event ?hg (N := 5) ?hd (cs := #[.int .u64 0, .slice none 0 0, .slice none 0 0]) (t := 53) ?hr ?_; (case hd => rfl); (case hg => rfl); (case hr => first | (go_simp; done) | (go_simp; rfl)); intro gx hg wbgx hbox hb; have n0_ := Aside0.mk (below_step (by repeat (first | (with_reducible first | exact HC.out | apply below_alloc | apply pw_below_drewN | apply below_drew1) | exact HC.out)) hb); have n1_ := Aside0.mk (hbox); have n2_ := Aside0.mk (by rw [hg]; exact below_size (by repeat (first | (with_reducible first | exact HC.out | apply below_alloc | apply pw_below_drewN | apply below_drew1) | exact HC.out)) : w.heap.size ≤ gx); clear HC; have HC := n0_; have BKgx := n1_; have GEgx := n2_; clear n0_ n1_ n2_; have HD := Aside0.mk (show Below w4.heap.size w4 wbgx from hb); have GE4 := Aside0.mk (show w4.heap.size ≤ gx from Nat.le_of_eq hg.symm); clear hb hbox hg; have hzgx0 : wbgx.cell? ⟨gx, 0, none⟩ = some (.int .u64 0) := (blk_cell BKgx.out 0).trans rfl; have hfgx0 := blk_frozen BKgx.out 0; have hzgx1 : wbgx.cell? ⟨gx, 1, none⟩ = some (.slice none 0 0) := (blk_cell BKgx.out 1).trans rfl; have hfgx1 := blk_frozen BKgx.out 1; have hzgx2 : wbgx.cell? ⟨gx, 2, none⟩ = some (.slice none 0 0) := (blk_cell BKgx.out 2).trans rfl; have hfgx2 := blk_frozen BKgx.out 2) | ((with_reducible refine gate_dst (N := 41) rfl ?_); (refine gate_guard (by rfl) ?_); dsimp only; refine str_event rfl 51 9 5 _ rfl Try.underlying51 Try.underlying5 Try.underlying9 Ao2 _ co2 _ rfl (Kd.C_below HV.out (by repeat (first | exact HD.out | refine below_set ?_ GE4.out))) ?_))
  go_ret
  have hb1 : ((strOfNums [98]).toList == [98]) = true := by kernel_rfl
  exact ⟨by rw [hb1]; rfl, by repeat (first | exact HC.out | refine below_set ?_ GEgx.out)⟩
end Go.Proofs.Ytiokegmpooildaa.Hp
