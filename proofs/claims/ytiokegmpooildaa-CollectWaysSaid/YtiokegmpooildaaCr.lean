/- collect.Reached: the numbers of what is marked. -/
import Derived.Test.YtiokegmpooildaaOb
import Derived.Test.YtiokegmpooildaaPAllx4
import Derived.Test.YtiokegmpooildaaHr
namespace Go.Proofs.Ytiokegmpooildaa.Hp
open Go.RowKit Go.Proofs.YtiokegmpooildaaW.PrintWords Go.Proofs.YtiokegmpooildaaW.PrintLast Go.Proofs.YtiokegmpooildaaW.PrintMore Go.Proofs.Ytiokegmpooildaa.PAll
set_option linter.unusedVariables false
set_option linter.unusedSimpArgs false
theorem info3_ : (Try.prog.info? 3).map (fun i => (i.zero, i.size, i.bytes)) = some (some (.int .i64 0), 1, 8) := by kernel_rfl
/-- The numbers at which a list is true, from i on. -/
def numsF : List Bool → Int → List Int
  | [], _ => []
  | b :: r, i => if b = true then i :: numsF r (i + 1) else numsF r (i + 1)
theorem numsF_cons (b : Bool) (r : List Bool) (i : Int) : numsF (b :: r) i = if b = true then i :: numsF r (i + 1) else numsF r (i + 1) := rfl
theorem numsF_append (a b : List Bool) (i : Int) : numsF (a ++ b) i = numsF a i ++ numsF b (i + a.length) := by
  induction a generalizing i with
  | nil => simp [numsF]
  | cons x r ih =>
    rw [List.cons_append, numsF_cons, numsF_cons]
    have e : i + 1 + (r.length : Int) = i + ((x :: r).length : Int) := by rw [List.length_cons]; omega
    cases x with
    | false => rw [if_neg (by decide), if_neg (by decide), ih, e]
    | true => rw [if_pos rfl, if_pos rfl, ih, e]; rfl
theorem numsF_next (bs : List Bool) (x : Int) (h0 : 0 ≤ x) (h1 : x < (bs.length : Int)) : numsF (bs.take (x + 1).toNat) 0 = if rdOf false bs x = true then numsF (bs.take x.toNat) 0 ++ [x] else numsF (bs.take x.toNat) 0 := by
  have e : (x + 1).toNat = x.toNat + 1 := by omega
  have e2 : rdOf false bs x = bs[x.toNat] := by
    unfold rdOf
    rw [List.getD_eq_getElem?_getD, List.getElem?_eq_getElem (by omega)]
    rfl
  rw [e, List.take_succ_eq_append_getElem (by omega), numsF_append, e2, List.length_take]
  have e3 : (0 : Int) + ((min x.toNat bs.length : Nat) : Int) = x := by omega
  rw [e3]
  cases bs[x.toNat] with
  | false => simp [numsF]
  | true => simp [numsF]
theorem numsF_length (bs : List Bool) (i : Int) : (numsF bs i).length ≤ bs.length := by
  induction bs generalizing i with
  | nil => simp [numsF]
  | cons x r ih =>
    unfold numsF
    have := ih (i + 1)
    cases x with
    | false => rw [if_neg (by decide)]; rw [List.length_cons]; omega
    | true => rw [if_pos rfl]; rw [List.length_cons, List.length_cons]; omega
set_option maxHeartbeats 16000000 in
set_option maxRecDepth 100000 in
theorem collect_reached (g : Nat) (Ar : Option Addr) (cr : Nat) (roots : List Int) (l : List S53) (o wd u : Int) (bs : List Bool) (K : Nat) (w : World) (hH : HeapC w g l o wd u) (hs : SmallL l) (hR : Kd.C (Kd.int .u64) w Ar roots.length roots) (hc : roots.length ≤ cr)
    (hm : collect_marks.f K l roots = some bs) (hbl : bs.length ≤ 5000) :
    Calls Try.prog 35 #[.pointer (some ⟨g, 0, none⟩), .slice Ar roots.length cr] w fun e w' => ∃ v, e = .returned v ∧ Kd.R (Kd.int .i64) 3 w' w.heap.size (fun _ => True) v (numsF bs 0) ∧ Below w.heap.size w w' := by
  have HH := Aside0.mk hH
  have HS := Aside0.mk hs
  have HR := Aside0.mk hR
  have HCR := Aside0.mk hc
  have HM := Aside0.mk hm
  clear hH hs hR hc hm
  have HC := Aside0.mk (Below.refl w.heap.size w)
  go_enter Try.func35, Try.ntmps35
  go_wp2_with (first | (go_at_call 18; (with_reducible refine (heap_Objects g l o wd u _ (HH.out.below (by repeat (first | (with_reducible first | exact Below.refl _ _ | apply below_alloc | apply pw_below_drewN | apply below_drew1) | exact Below.refl _ _))) HS.out).mono ?_); rintro e w' ⟨v, rfl, hS, hb⟩; obtain ⟨AN, cN, rfl, hlN, hCN⟩ := Kd.S_reads hS; have LN := Aside0.mk hlN; have HVN := Aside0.mk hCN; have n0_ := Aside0.mk (below_step (by repeat (first | (with_reducible first | exact HC.out | apply below_alloc | apply pw_below_drewN | apply below_drew1) | exact HC.out)) hb); clear HC; have HC := n0_; clear n0_; clear hS hlN hCN hb) | (go_at_call 69; (with_reducible refine (collect_marks.calls K AN cN l Ar cr roots bs _ (Kd.C_below HVN.out (by repeat (first | (with_reducible first | exact Below.refl _ _ | apply below_alloc | apply pw_below_drewN | apply below_drew1) | exact Below.refl _ _))) LN.out (Kd.C_below HR.out (by repeat (first | (with_reducible first | exact HC.out | apply below_alloc | apply pw_below_drewN | apply below_drew1) | exact HC.out))) HCR.out HM.out).mono ?_); rintro e w' ⟨v, rfl, hS, hb⟩; obtain ⟨AB, cB, rfl, hlB, hCB⟩ := Kd.R_reads hS; have LB := Aside0.mk hlB; have HVB := Aside0.mk hCB; have n0_ := Aside0.mk (below_step (by repeat (first | (with_reducible first | exact HC.out | apply below_alloc | apply pw_below_drewN | apply below_drew1) | exact HC.out)) hb); clear HC; have HC := n0_; clear n0_; clear hS hlB hCB hb))
  obtain ⟨wl, hwl⟩ : ∃ wl : World, wl = w' := ⟨_, rfl⟩
  rw [← hwl] at HC HVB ⊢
  clear hwl HVN
  go_loopg [5, 15] bs.length (fun kq v5 v15 w' => ∃ (x : Int), v15 = .int .i64 x ∧ 0 ≤ x ∧ x ≤ bs.length ∧ Aside0 ((kq : Int) + x = bs.length) ∧ Aside0 (Kd.R (Kd.int .i64) 3 w' wl.heap.size (fun _ => True) v5 (numsF (bs.take x.toNat) 0)) ∧ Aside0 (Below wl.heap.size wl w'))
  case atStart => exact ⟨0, rfl, by omega, by omega, ⟨by simp⟩, ⟨by have e_ : numsF (bs.take (0 : Int).toNat) 0 = [] := (by simp [numsF]); rw [e_]; exact Kd.R_nil _ _ _ _ _⟩, ⟨Below.refl _ _⟩⟩
  case round =>
    obtain ⟨x, rfl, p0, p1, HK, HO, HB⟩ := hrel
    by_cases hlt : x < (bs.length : Int)
    · have c3b0 : decide (x < (bs.length : Int)) = true := decide_eq_true hlt
      obtain ⟨ad, e0, hw0⟩ := Kd.at_bool HVB.out x p0 hlt
      cases e0
      have hx0 := (HB.out.cell (World.block_lt_of_cell? wl _ hw0)).trans hw0
      have p0' : (0 ≤ x) = True := eq_true p0
      have p1' : (x < (bs.length : Int)) = True := eq_true hlt
      have hnx := numsF_next bs x p0 hlt
      have HOL := Aside0.mk (show ((numsF (bs.take x.toNat) 0).length + 1) * 8 ≤ 140737488355328 by
        have h1 := numsF_length (bs.take x.toNat) 0
        have h2 : (bs.take x.toNat).length ≤ bs.length := by rw [List.length_take]; omega
        omega)
      obtain ⟨out, ho_⟩ : ∃ out, out = numsF (bs.take x.toNat) 0 := ⟨_, rfl⟩
      rw [← ho_] at HO hnx HOL
      clear ho_ hw0
      cases hb_ : rdOf false bs x with
      | false =>
        rw [hb_] at hx0 hnx
        rw [if_neg (by decide)] at hnx
        have HNX := Aside0.mk hnx
        clear hnx hb_
        go_wp2_with (fail)
        go_roundg (gk - 1)
        case measure => have := HK.out; omega
        case rel => exact ⟨x + 1, (by first | rfl | go_num), by omega, by omega, ⟨by have := HK.out; omega⟩, ⟨by rw [HNX.out]; exact HO.out⟩, HB⟩
      | true =>
        rw [hb_] at hx0 hnx
        rw [if_pos rfl] at hnx
        have HNX := Aside0.mk hnx
        clear hnx hb_
        go_wp2_with (first | ((with_reducible refine gate_builtin (b := .append) (xs := #[.tmp 21, .tmp 23]) rfl ?_); at_builtin; refine Kd.R_append (Kd.int .i64) (w0 := wl) wl.heap.size rfl (.tmp 21) (.tmp 23) 65 3 (.int .i64 0) 8 rfl Try.underlying65 info3_ rfl (by decide) (by omega) u5 out x [.int .i64 x] (fun _ => True) (fun _ => False) rfl rfl ?aP (fun _ hk => hk.elim) ?aF ?aO ?aB ?aS ?aL ?_; (case aP => exact rfl); (case aB => exact (by repeat (first | (with_reducible first | exact HB.out | apply below_alloc | apply pw_below_drewN | apply below_drew1) | exact HB.out))); (case aF => exact (fun _ _ => trivial)); (case aO => exact (by (with_reducible repeat (first | apply Kd.R_alloc | apply Kd.R_drewN | apply Kd.R_drew)); exact HO.out)); (case aS => exact (below_size (by repeat (first | (with_reducible first | exact HB.out | apply below_alloc | apply pw_below_drewN | apply below_drew1) | exact HB.out)))); (case aL => have := HOL.out; omega); intro v9 w9 ho hb hg hat; rw [← HNX.out] at ho; have n0_ := Aside0.mk hb; have n1_ := Aside0.mk ho; clear HB HO; have HB := n0_; have HO := n1_; clear n0_ n1_; clear ho hb hg hat))
        go_roundg (gk - 1)
        case measure => have := HK.out; omega
        case rel => exact ⟨x + 1, (by first | rfl | go_num), by omega, by omega, ⟨by have := HK.out; omega⟩, HO, HB⟩
    · have c3b0 : decide (x < (bs.length : Int)) = false := decide_eq_false hlt
      have e_ : bs.take x.toNat = bs := List.take_of_length_le (by omega)
      rw [e_] at HO
      go_wp2_with (fail)
      go_ret
      exact ⟨_, rfl, Kd.R_lower HO.out HC.out.size, below_step HC.out HB.out⟩
end Go.Proofs.Ytiokegmpooildaa.Hp
