/- collect.turned, collect.Moved. -/
import Derived.Test.YtiokegmpooildaaBs
import Derived.Test.YtiokegmpooildaaCr
import Derived.Test.YtiokegmpooildaaMz
namespace Go.Proofs.Ytiokegmpooildaa.Hp
open Go.RowKit Go.Proofs.YtiokegmpooildaaW.PrintWords Go.Proofs.YtiokegmpooildaaW.PrintLast Go.Proofs.YtiokegmpooildaaW.PrintMore Go.Proofs.Ytiokegmpooildaa.PAll
set_option linter.unusedVariables false
set_option linter.unusedSimpArgs false
/-- The new references of the objects of some numbers. -/
def movedF (ns : List Int) : Int → Option Int := ns.zipIdx.foldl (fun m p k => if k = 2 * p.1 then some (2 * (p.2 : Int)) else m k) (fun _ => none)
theorem movedF_snoc (ns : List Int) (a : Int) : movedF (ns ++ [a]) = fun k => if k = 2 * a then some (2 * (ns.length : Int)) else movedF ns k := by
  unfold movedF
  rw [List.zipIdx_append, List.foldl_append]
  simp
theorem movedF_next (ns : List Int) (x : Int) (h0 : 0 ≤ x) (h1 : x < (ns.length : Int)) : movedF (ns.take (x + 1).toNat) = fun k => if k = 2 * rd ns x then some (2 * x) else movedF (ns.take x.toNat) k := by
  have e : (x + 1).toNat = x.toNat + 1 := by omega
  have e2 : rd ns x = ns[x.toNat] := by
    unfold rd
    rw [List.getD_eq_getElem?_getD, List.getElem?_eq_getElem (by omega)]
    rfl
  rw [e, List.take_succ_eq_append_getElem (by omega), movedF_snoc, e2, List.length_take]
  have e3 : ((min x.toNat ns.length : Nat) : Int) = x := by omega
  rw [e3]
theorem movedF_none : ∀ (n : Nat) (ns : List Int) (k : Int), ns.length ≤ n → (∀ a ∈ ns, k ≠ 2 * a) → movedF ns k = none
  | 0, ns, k, hn, h => by
    obtain rfl := List.length_eq_zero_iff.1 (Nat.le_zero.1 hn)
    rfl
  | n + 1, ns, k, hn, h => by
    rcases List.eq_nil_or_concat ns with rfl | ⟨r, a, rfl⟩
    · rfl
    · rw [List.concat_eq_append] at *
      rw [movedF_snoc]
      rw [List.length_append] at hn
      show (if k = 2 * a then some (2 * (r.length : Int)) else movedF r k) = none
      rw [if_neg (h a (by simp))]
      exact movedF_none n r k (by simpa using hn) (fun b hb => h b (by simp [hb]))
theorem numsF_ge (bs : List Bool) (i : Int) : ∀ a ∈ numsF bs i, i ≤ a ∧ a < i + bs.length := by
  induction bs generalizing i with
  | nil => intro a ha; cases ha
  | cons b r ih =>
    intro a ha
    rw [numsF_cons] at ha
    rw [List.length_cons]
    cases b with
    | false =>
      rw [if_neg (by decide)] at ha
      have := ih (i + 1) a ha
      omega
    | true =>
      rw [if_pos rfl] at ha
      rcases List.mem_cons.1 ha with rfl | ha
      · omega
      · have := ih (i + 1) a ha
        omega
theorem numsF_sorted (bs : List Bool) (i : Int) : (numsF bs i).Pairwise (· < ·) := by
  induction bs generalizing i with
  | nil => exact List.Pairwise.nil
  | cons b r ih =>
    rw [numsF_cons]
    cases b with
    | false => rw [if_neg (by decide)]; exact ih (i + 1)
    | true =>
      rw [if_pos rfl, List.pairwise_cons]
      exact ⟨fun a ha => by have := numsF_ge r (i + 1) a ha; omega, ih (i + 1)⟩
theorem sorted_fresh {ns : List Int} (h : ns.Pairwise (· < ·)) (x : Int) (h0 : 0 ≤ x) (h1 : x < (ns.length : Int)) : ∀ a ∈ ns.take x.toNat, a < rd ns x := by
  intro a ha
  obtain ⟨j, hj, rfl⟩ := List.mem_iff_getElem.1 ha
  rw [List.length_take] at hj
  rw [List.getElem_take]
  unfold rd
  rw [List.getD_eq_getElem?_getD, List.getElem?_eq_getElem (by omega)]
  exact List.pairwise_iff_getElem.1 h j x.toNat (by omega) (by omega) (by omega)
set_option maxHeartbeats 16000000 in
set_option maxRecDepth 100000 in
theorem collect_turned (b n : Nat) (m : Int → Option Int) (a : Int) (w : World) (hM : MapW w b n m) (ha : W64 a) :
    Calls Try.prog 70 #[.int .u64 a, .map (some b)] w fun e w' => e = .returned (.int .u64 ((m a).getD a)) ∧ Drawn0 w w' := by
  have HM := Aside0.mk hM
  have HA := Aside0.mk ha
  clear hM ha
  cases hma : m a with
  | none =>
    have HMA := Aside0.mk hma
    clear hma
    go_enter Try.func70, Try.ntmps70
    go_wp2_with (first | ((with_reducible refine gate_dst (N := 10) rfl ?_); refine wpList_look_w _ rfl (.tmp 8) (.tmp 9) rfl b n m a rfl rfl HA.out (HM.out.below (Drawn0.below (by repeat (first | exact Drawn0.refl _ | apply Drawn0.step)))) ?_; rw [HMA.out]))
    go_ret
    exact ⟨rfl, (by repeat (first | exact Drawn0.refl _ | apply Drawn0.step))⟩
  | some t =>
    have HMA := Aside0.mk hma
    clear hma
    go_enter Try.func70, Try.ntmps70
    go_wp2_with (first | ((with_reducible refine gate_dst (N := 10) rfl ?_); refine wpList_look_w _ rfl (.tmp 8) (.tmp 9) rfl b n m a rfl rfl HA.out (HM.out.below (Drawn0.below (by repeat (first | exact Drawn0.refl _ | apply Drawn0.step)))) ?_; rw [HMA.out]))
    go_ret
    exact ⟨rfl, (by repeat (first | exact Drawn0.refl _ | apply Drawn0.step))⟩
set_option maxHeartbeats 16000000 in
set_option maxRecDepth 100000 in
theorem collect_moved (g : Nat) (Ar : Option Addr) (cr : Nat) (roots : List Int) (l : List S53) (o wd u : Int) (bs : List Bool) (K : Nat) (w : World) (hH : HeapC w g l o wd u) (hs : SmallL l) (hR : Kd.C (Kd.int .u64) w Ar roots.length roots) (hc : roots.length ≤ cr)
    (hm : collect_marks.f K l roots = some bs) (hbl : bs.length ≤ 5000) :
    Calls Try.prog 39 #[.pointer (some ⟨g, 0, none⟩), .slice Ar roots.length cr] w fun e w' => ∃ b, e = .returned (.map (some b)) ∧ w.heap.size ≤ b ∧ MapZ w' b (numsF bs 0).length (movedF (numsF bs 0)) ∧ Below w.heap.size w w' := by
  have HH := Aside0.mk hH
  have HS := Aside0.mk hs
  have HR := Aside0.mk hR
  have HCR := Aside0.mk hc
  have HMK := Aside0.mk hm
  have HBL := Aside0.mk hbl
  clear hH hs hR hc hm
  have HC := Aside0.mk (Below.refl w.heap.size w)
  have HSO := Aside0.mk (numsF_sorted bs 0)
  have HGE := Aside0.mk (numsF_ge bs 0)
  have hnl : (numsF bs 0).length ≤ 5000 := Nat.le_trans (numsF_length bs 0) hbl
  go_enter Try.func39, Try.ntmps39
  go_wp2_with (first | ((with_reducible refine gate_dst (N := 10) rfl ?_); refine mapmadeZ_event rfl rfl ?_; intro b wb hg hM hb; have HM := Aside0.mk hM; have GB := Aside0.mk (show w.heap.size ≤ b from by rw [hg]; exact below_size (by repeat (first | (with_reducible first | exact HC.out | apply below_alloc | apply pw_below_drewN | apply below_drew1) | exact HC.out))); have n0_ := Aside0.mk (below_step (by repeat (first | (with_reducible first | exact HC.out | apply below_alloc | apply pw_below_drewN | apply below_drew1) | exact HC.out)) hb); clear HC; have HC := n0_; clear n0_; clear hM hg hb) | (go_at_call 35; (with_reducible refine (collect_reached g Ar cr roots l o wd u bs K _ (HH.out.below (by repeat (first | (with_reducible first | exact HC.out | apply below_alloc | apply pw_below_drewN | apply below_drew1) | exact HC.out))) HS.out (Kd.C_below HR.out (by repeat (first | (with_reducible first | exact HC.out | apply below_alloc | apply pw_below_drewN | apply below_drew1) | exact HC.out))) HCR.out HMK.out HBL.out).mono ?_); rintro e w' ⟨v, rfl, hS, hb⟩; obtain ⟨AN, cN, rfl⟩ := Kd.R_slice hS; have HN := Aside0.mk hS; have n0_ := Aside0.mk (below_step (by repeat (first | (with_reducible first | exact HC.out | apply below_alloc | apply pw_below_drewN | apply below_drew1) | exact HC.out)) hb); have n1_ := Aside0.mk (HM.out.below (below_step (by repeat (first | (with_reducible first | exact Below.refl _ _ | apply below_alloc | apply pw_below_drewN | apply below_drew1) | exact Below.refl _ _)) hb)); have HLT := Aside0.mk (show b < _ from Nat.lt_of_lt_of_le HM.out.lt (below_size (by repeat (first | (with_reducible first | exact Below.refl _ _ | apply below_alloc | apply pw_below_drewN | apply below_drew1) | exact Below.refl _ _)))); clear HC HM; have HC := n0_; have HM := n1_; clear n0_ n1_; clear hS hb))
  have HNE := Aside0.mk (show some b ≠ (Value.slice AN (numsF bs 0).length cN).ownBlock from fun e_ => by have := Kd.R_base HN.out b e_.symm; have := HLT.out; omega)
  obtain ⟨ns, hns⟩ : ∃ ns, ns = numsF bs 0 := ⟨_, rfl⟩
  rw [← hns] at HN HSO HGE HNE hnl ⊢
  have HNS := Aside0.mk hns
  clear hns
  go_loopg [15] ns.length (fun kq v15 w' => ∃ (x : Int) (nn : Nat), v15 = .int .i64 x ∧ 0 ≤ x ∧ x ≤ ns.length ∧ Aside0 ((nn : Int) = x) ∧ Aside0 ((kq : Int) + x = ns.length) ∧ Aside0 (MapZ w' b nn (movedF (ns.take x.toNat))) ∧ Aside0 (Kd.R (Kd.int .i64) 3 w' _ (fun _ => True) (.slice AN ns.length cN) ns) ∧ Aside0 (Below w.heap.size w w'))
  case atStart => exact ⟨0, 0, rfl, by omega, by omega, ⟨rfl⟩, ⟨by simp⟩, HM, HN, HC⟩
  case round =>
    clear HM HN HC
    obtain ⟨x, nn, rfl, p0, p1, HNN, HK, HM, HN, HC⟩ := hrel
    by_cases hlt : x < (ns.length : Int)
    · have c3b0 : decide (x < (ns.length : Int)) = true := decide_eq_true hlt
      obtain ⟨ad, e0, hw0⟩ := Kd.at_int (Kd.R_reads' HN.out).2.2 x p0 hlt
      cases e0
      have p0' : (0 ≤ x) = True := eq_true p0
      have p1' : (x < (ns.length : Int)) = True := eq_true hlt
      have hge := HGE.out _ (rd_mem p0 hlt)
      have HNX := Aside0.mk (movedF_next ns x p0 hlt)
      have HFR := Aside0.mk (movedF_none _ (ns.take x.toNat) (2 * rd ns x) (Nat.le_refl _) (fun a ha e_ => by have := sorted_fresh HSO.out x p0 hlt a ha; omega))
      have HRF : Aside0 (word_Ref.f (rd ns x) = some (2 * rd ns x, true)) := ⟨by
        obtain ⟨q, hq⟩ : ∃ q : Nat, rd ns x = q := ⟨(rd ns x).toNat, by omega⟩
        rw [hq]
        exact ref_f (by omega)⟩
      have HRX : Aside0 (word_Ref.f x = some (2 * x, true)) := ⟨by
        obtain ⟨q, hq⟩ : ∃ q : Nat, x = q := ⟨x.toNat, by omega⟩
        rw [hq]
        exact ref_f (by omega)⟩
      have HWA := Aside0.mk (show W64 (2 * rd ns x) by unfold W64; omega)
      have HWB := Aside0.mk (show W64 (2 * x) by unfold W64; omega)
      have HNL := Aside0.mk (show nn < maxLen by have := HNN.out; have h2 : (5000 : Nat) < maxLen := (by decide); omega)
      clear hge
      go_wp2_with (first | (go_at_call 66; (with_reducible refine (word_Ref.calls (rd ns x) _ _ _ HRF.out).mono ?_); rintro e w' ⟨rfl, ⟨nd, rfl⟩⟩) | (go_at_call 66; (with_reducible refine (word_Ref.calls x _ _ _ HRX.out).mono ?_); rintro e w' ⟨rfl, ⟨nd, rfl⟩⟩) | ((with_reducible refine gate_ (Op.mapUpdate 72 (.tmp 26) (.tmp 27) (.tmp 30)) rfl ?_); refine wpList_put_z _ rfl (.tmp 26) (.tmp 27) (.tmp 30) rfl b nn (movedF (ns.take x.toNat)) (2 * rd ns x) (2 * x) rfl rfl rfl HWA.out HWB.out HNL.out (HM.out.below (Drawn0.below (by repeat (first | exact Drawn0.refl _ | apply Drawn0.step)))) HFR.out ?_; intro w1 hm1 hg1; rw [← HNX.out] at hm1; have n0_ := Aside0.mk hm1; have n1_ := Aside0.mk (Kd.R_grown1 (Kd.R_below HN.out (Drawn0.below (by repeat (first | exact Drawn0.refl _ | apply Drawn0.step)))) rfl hg1 HNE.out); have n2_ := Aside0.mk (Below.grown (by repeat (first | (with_reducible first | exact HC.out | apply below_alloc | apply pw_below_drewN | apply below_drew1) | exact HC.out)) hg1 (Nat.le_trans HC.out.size (below_size (Drawn0.below (by repeat (first | exact Drawn0.refl _ | apply Drawn0.step))))) (fun k hk => by obtain rfl := Option.some.inj hk; exact GB.out)); clear HM HN HC hm1 hg1; have HM := n0_; have HN := n1_; have HC := n2_; clear n0_ n1_ n2_))
      go_roundg (gk - 1)
      case measure => have := HK.out; omega
      case rel => exact ⟨x + 1, nn + 1, (by first | rfl | go_num), by omega, by omega, ⟨by have := HNN.out; omega⟩, ⟨by have := HK.out; omega⟩, HM, HN, HC⟩
    · have c3b0 : decide (x < (ns.length : Int)) = false := decide_eq_false hlt
      have e_ : ns.take x.toNat = ns := List.take_of_length_le (by omega)
      have e2_ : nn = ns.length := by have := HNN.out; omega
      rw [e_, e2_] at HM
      go_wp2_with (fail)
      go_ret
      exact ⟨_, rfl, GB.out, by rw [← HNS.out]; exact HM.out, HC.out⟩
end Go.Proofs.Ytiokegmpooildaa.Hp
