/- heap.Make, all its ways. -/
import Derived.Test.YtiokegmpooildaaMk
import Derived.Test.YtiokegmpooildaaSe
namespace Go.Proofs.Ytiokegmpooildaa.Hp
open Go.RowKit Go.Proofs.YtiokegmpooildaaW.PrintWords Go.Proofs.YtiokegmpooildaaW.PrintLast Go.Proofs.YtiokegmpooildaaW.PrintMore Go.Proofs.Ytiokegmpooildaa.PAll
set_option linter.unusedVariables false
set_option linter.unusedSimpArgs false
def makeE (l : List S53) (o wd u cls slots : Int) (bs : List Int) : Int :=
  if thereP l.length cls = true then (if 0 ≤ slots ∧ slots ≤ 1000 ∧ bs.length ≤ 8000 then (if (l.length : Int) ≠ o ∧ szO (newO cls slots bs) ≤ wd - u then 0 else 60) else 2) else 61
def makeW (l : List S53) (o wd u cls slots : Int) (bs : List Int) : Int := if makeE l o wd u cls slots bs = 0 then 2 * (l.length : Int) else 0
def makeL (l : List S53) (o wd u cls slots : Int) (bs : List Int) : List S53 := if makeE l o wd u cls slots bs = 0 then l ++ [newO cls slots bs] else l
def makeU (l : List S53) (o wd u cls slots : Int) (bs : List Int) : Int := if makeE l o wd u cls slots bs = 0 then u + szO (newO cls slots bs) else u
set_option maxHeartbeats 16000000 in
set_option maxRecDepth 100000 in
theorem heap_Make (g B : Nat) (cls slots : Int) (A : Option Addr) (c : Nat) (bs : List Int) (l : List S53) (o wd u : Int) (w0 w : World) (hO : HeapO w g B (fun k => B ≤ k) l o wd u) (hl : (l.length : Int) ≤ o) (ho : o ≤ 4096) (ha : W64 cls)
    (s0 : -9223372036854775808 ≤ slots ∧ slots ≤ 9223372036854775807) (hb : bs.length ≤ 100000) (hCb : Kd.C (Kd.int .u8) w0 A bs.length bs) (hcb : bs.length ≤ c) (hB0 : Below w0.heap.size w0 w) (hle : w0.heap.size ≤ B)
    (hu0 : 0 ≤ u) (hu1 : u ≤ wd) (hw2 : wd ≤ 1073741824) :
    Calls Try.prog 30 #[.pointer (some ⟨g, 0, none⟩), .int .u64 cls, .int .i64 slots, .slice A bs.length c] w fun e w' => e = .returned (.tuple #[.int .u64 (makeW l o wd u cls slots bs), .int .i64 (makeE l o wd u cls slots bs)]) ∧ HeapO w' g B (fun k => B ≤ k) (makeL l o wd u cls slots bs) o wd (makeU l o wd u cls slots bs) ∧ Below B w w' := by
  have hg := makeE l o wd u cls slots bs
  unfold makeW makeL makeU
  cases ht : thereP l.length cls with
  | false =>
    have e_ : makeE l o wd u cls slots bs = 61 := by unfold makeE; rw [if_neg (by rw [ht]; decide)]
    rw [e_, if_neg (by decide), if_neg (by decide), if_neg (by decide)]
    clear e_ hg
    have HH := Aside0.mk hO.reads
    have HO := Aside0.mk hO
    have HL := Aside0.mk (show l.length ≤ 5000 by omega)
    have HA := Aside0.mk ha
    have HT := Aside0.mk ht
    have HG : Aside0 (B ≤ w.heap.size) := ⟨by obtain ⟨_, h1, h2, _⟩ := hO; exact Nat.le_trans h2 (Nat.le_of_lt (blk_lt h1))⟩
    clear hO hCb hB0 hle ha ht
    go_enter Try.func30, Try.ntmps30
    go_wp2_with (first | (go_at_call 53; (with_reducible refine (heap_there g cls l o wd u _ (HH.out.below (Drawn0.below (by repeat (first | exact Drawn0.refl _ | apply Drawn0.step)))) HA.out HL.out).mono ?_); rintro e w' ⟨rfl, ⟨nd, rfl⟩⟩; rw [HT.out]))
    go_ret2
    exact ⟨rfl, HO.out.below (Drawn0.below (by repeat (first | exact Drawn0.refl _ | apply Drawn0.step))), (Drawn0.below (by repeat (first | exact Drawn0.refl _ | apply Drawn0.step))).mono HG.out⟩
  | true =>
    by_cases hs : 0 ≤ slots ∧ slots ≤ 1000 ∧ bs.length ≤ 8000
    · by_cases hf : (l.length : Int) ≠ o ∧ szO (newO cls slots bs) ≤ wd - u
      · have e_ : makeE l o wd u cls slots bs = 0 := by unfold makeE; rw [if_pos ht, if_pos hs, if_pos hf]
        rw [e_, if_pos rfl, if_pos rfl, if_pos rfl]
        exact heap_Make_ok g B cls slots A c bs l o wd u w0 w hO (by omega) ha ht hs.1 hs.2.1 hs.2.2 hCb hcb hB0 hle hu0 hu1 hw2 hf.1 hf.2
      · have e_ : makeE l o wd u cls slots bs = 60 := by unfold makeE; rw [if_pos ht, if_pos hs, if_neg hf]
        rw [e_, if_neg (by decide), if_neg (by decide), if_neg (by decide)]
        clear e_ hg
        have HZ := Aside0.mk (size_new (cls := cls) hs.1 hs.2.1 hs.2.2)
        have hzz := szO_le (x := newO cls slots bs) (newO_small hs.2.1 hs.2.2)
        obtain ⟨sz, hsz⟩ : ∃ sz, sz = szO (newO cls slots bs) := ⟨_, rfl⟩
        rw [← hsz] at HZ hzz hf
        clear hsz
        have HH := Aside0.mk hO.reads
        have HO := Aside0.mk hO
        have HL := Aside0.mk (show l.length ≤ 5000 by omega)
        have HA := Aside0.mk ha
        have HT := Aside0.mk ht
        have HG : Aside0 (B ≤ w.heap.size) := ⟨by obtain ⟨_, h1, h2, _⟩ := hO; exact Nat.le_trans h2 (Nat.le_of_lt (blk_lt h1))⟩
        have b0 : decide (slots < 0) = false := decide_eq_false (by omega)
        have b1 : decide (1000 < slots) = false := decide_eq_false (by omega)
        have b2 : decide ((8000 : Int) < (bs.length : Int)) = false := decide_eq_false (by omega)
        obtain ⟨v, hbk, hgb, hgb', hS⟩ := hO
        obtain ⟨Av, cv, ev⟩ := Kd.S_slice hS
        subst ev
        have k0 : w.cell? ⟨g, 0, none⟩ = some (.slice Av l.length cv) := (blk_cell hbk 0).trans rfl
        have k1 : w.cell? ⟨g, 1, none⟩ = some (.int .i64 o) := (blk_cell hbk 1).trans rfl
        have k2 : w.cell? ⟨g, 2, none⟩ = some (.int .i64 wd) := (blk_cell hbk 2).trans rfl
        have k3 : w.cell? ⟨g, 3, none⟩ = some (.int .i64 u) := (blk_cell hbk 3).trans rfl
        by_cases hlo : (l.length : Int) = o
        · have b3 : ((l.length : Int) == o) = true := by simpa using hlo
          clear hCb hB0 hle ha ht hbk hgb hgb' hS hf
          go_enter Try.func30, Try.ntmps30
          go_wp2_with (first | (go_at_call 53; (with_reducible refine (heap_there g cls l o wd u _ (HH.out.below (Drawn0.below (by repeat (first | exact Drawn0.refl _ | apply Drawn0.step)))) HA.out HL.out).mono ?_); rintro e w' ⟨rfl, ⟨nd, rfl⟩⟩; rw [HT.out]))
          repeat (go_quiet (first | (go_at_call 51; refine Calls.quiet_of ((heap_size.calls _ _ _ _ HZ.out).mono (fun e w' h => ⟨h.1, h.2.out⟩)))); try go_wp2)
          go_ret2
          exact ⟨rfl, HO.out.below (Drawn0.below (by repeat (first | exact Drawn0.refl _ | apply Drawn0.step))), (Drawn0.below (by repeat (first | exact Drawn0.refl _ | apply Drawn0.step))).mono HG.out⟩
        · have b3 : ((l.length : Int) == o) = false := by simpa using hlo
          have b4 : decide (wd - u < sz) = true := decide_eq_true (by have : ¬ sz ≤ wd - u := fun h => hf ⟨hlo, h⟩; omega)
          clear hCb hB0 hle ha ht hbk hgb hgb' hS hf
          go_enter Try.func30, Try.ntmps30
          go_wp2_with (first | (go_at_call 53; (with_reducible refine (heap_there g cls l o wd u _ (HH.out.below (Drawn0.below (by repeat (first | exact Drawn0.refl _ | apply Drawn0.step)))) HA.out HL.out).mono ?_); rintro e w' ⟨rfl, ⟨nd, rfl⟩⟩; rw [HT.out]))
          have n0_ := Aside0.mk (HO.out.below (Drawn0.below (show Drawn0 w (w.drewN nd) from ⟨⟨nd, rfl⟩⟩)))
          have n1_ := Aside0.mk (pw_below_drewN (Below.refl w.heap.size w) nd)
          have n2_ := Aside0.mk (HH.out.below n1_.out)
          generalize hw_ : w.drewN nd = w1 at n0_ n1_ n2_ ⊢
          replace k0 : w1.cell? ⟨g, 0, none⟩ = some (.slice Av l.length cv) := (n1_.out.cell (World.block_lt_of_cell? w _ k0)).trans k0
          replace k1 : w1.cell? ⟨g, 1, none⟩ = some (.int .i64 o) := (n1_.out.cell (World.block_lt_of_cell? w _ k1)).trans k1
          replace k2 : w1.cell? ⟨g, 2, none⟩ = some (.int .i64 wd) := (n1_.out.cell (World.block_lt_of_cell? w _ k2)).trans k2
          replace k3 : w1.cell? ⟨g, 3, none⟩ = some (.int .i64 u) := (n1_.out.cell (World.block_lt_of_cell? w _ k3)).trans k3
          clear hw_ HO HH
          have HO := n0_
          have HH := n2_
          have HBB := Aside0.mk (n1_.out.mono HG.out)
          have HG1 := Aside0.mk (Nat.le_trans HG.out n1_.out.size)
          clear n0_ n1_ n2_
          repeat (go_quiet (first | (go_at_call 51; refine Calls.quiet_of ((heap_size.calls _ _ _ _ HZ.out).mono (fun e w' h => ⟨h.1, h.2.out⟩)))); try go_wp2)
          go_ret2
          exact ⟨rfl, HO.out.below (Drawn0.below (by repeat (first | exact Drawn0.refl _ | apply Drawn0.step))), HBB.out.trans ((Drawn0.below (by repeat (first | exact Drawn0.refl _ | apply Drawn0.step))).mono HG1.out)⟩
    · have e_ : makeE l o wd u cls slots bs = 2 := by unfold makeE; rw [if_pos ht, if_neg hs]
      rw [e_, if_neg (by decide), if_neg (by decide), if_neg (by decide)]
      clear e_ hg
      have HH := Aside0.mk hO.reads
      have HO := Aside0.mk hO
      have HL := Aside0.mk (show l.length ≤ 5000 by omega)
      have HA := Aside0.mk ha
      have HT := Aside0.mk ht
      have HG : Aside0 (B ≤ w.heap.size) := ⟨by obtain ⟨_, h1, h2, _⟩ := hO; exact Nat.le_trans h2 (Nat.le_of_lt (blk_lt h1))⟩
      by_cases h1 : slots < 0
      · have b0 : decide (slots < 0) = true := decide_eq_true h1
        clear hO hCb hB0 hle ha ht
        go_enter Try.func30, Try.ntmps30
        go_wp2_with (first | (go_at_call 53; (with_reducible refine (heap_there g cls l o wd u _ (HH.out.below (Drawn0.below (by repeat (first | exact Drawn0.refl _ | apply Drawn0.step)))) HA.out HL.out).mono ?_); rintro e w' ⟨rfl, ⟨nd, rfl⟩⟩; rw [HT.out]))
        go_ret2
        exact ⟨rfl, HO.out.below (Drawn0.below (by repeat (first | exact Drawn0.refl _ | apply Drawn0.step))), (Drawn0.below (by repeat (first | exact Drawn0.refl _ | apply Drawn0.step))).mono HG.out⟩
      · have b0 : decide (slots < 0) = false := decide_eq_false h1
        by_cases h2 : 1000 < slots
        · have b1 : decide (1000 < slots) = true := decide_eq_true h2
          clear hO hCb hB0 hle ha ht
          go_enter Try.func30, Try.ntmps30
          go_wp2_with (first | (go_at_call 53; (with_reducible refine (heap_there g cls l o wd u _ (HH.out.below (Drawn0.below (by repeat (first | exact Drawn0.refl _ | apply Drawn0.step)))) HA.out HL.out).mono ?_); rintro e w' ⟨rfl, ⟨nd, rfl⟩⟩; rw [HT.out]))
          go_ret2
          exact ⟨rfl, HO.out.below (Drawn0.below (by repeat (first | exact Drawn0.refl _ | apply Drawn0.step))), (Drawn0.below (by repeat (first | exact Drawn0.refl _ | apply Drawn0.step))).mono HG.out⟩
        · have b1 : decide (1000 < slots) = false := decide_eq_false h2
          have b2 : decide ((8000 : Int) < (bs.length : Int)) = true := decide_eq_true (by omega)
          clear hO hCb hB0 hle ha ht
          go_enter Try.func30, Try.ntmps30
          go_wp2_with (first | (go_at_call 53; (with_reducible refine (heap_there g cls l o wd u _ (HH.out.below (Drawn0.below (by repeat (first | exact Drawn0.refl _ | apply Drawn0.step)))) HA.out HL.out).mono ?_); rintro e w' ⟨rfl, ⟨nd, rfl⟩⟩; rw [HT.out]))
          go_ret2
          exact ⟨rfl, HO.out.below (Drawn0.below (by repeat (first | exact Drawn0.refl _ | apply Drawn0.step))), (Drawn0.below (by repeat (first | exact Drawn0.refl _ | apply Drawn0.step))).mono HG.out⟩
end Go.Proofs.Ytiokegmpooildaa.Hp
