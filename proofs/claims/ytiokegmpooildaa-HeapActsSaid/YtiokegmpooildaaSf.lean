/- heap.Set and heap.SetClass, with what they leave alone. -/
import Derived.Test.YtiokegmpooildaaMd
import Derived.Test.YtiokegmpooildaaFr
import Derived.Test.YtiokegmpooildaaSm
import Derived.Test.YtiokegmpooildaaSt
namespace Go.Proofs.Ytiokegmpooildaa.Hp
open Go.RowKit Go.Proofs.YtiokegmpooildaaW.PrintWords Go.Proofs.YtiokegmpooildaaW.PrintLast Go.Proofs.YtiokegmpooildaaW.PrintMore Go.Proofs.Ytiokegmpooildaa.PAll
set_option linter.unusedVariables false
set_option linter.unusedSimpArgs false
set_option maxHeartbeats 16000000 in
set_option maxRecDepth 100000 in
theorem heap_SetF (g B : Nat) (ok : Nat → Prop) (a i v : Int) (l : List S53) (o wd u : Int) (w : World) (hO : HeapO w g B ok l o wd u) (hl : l.length ≤ 5000) (ha : W64 a) (hv : W64 v) :
    Calls Try.prog 31 #[.pointer (some ⟨g, 0, none⟩), .int .u64 a, .int .i64 i, .int .u64 v] w fun e w' => e = .returned (.int .i64 (setErr l a i v)) ∧ HeapO w' g B ok (setL l a i v) o wd u ∧ Frm ok w w' := by
  have HH := Aside0.mk hO.reads
  have HO := Aside0.mk hO
  have HL := Aside0.mk hl
  have HA := Aside0.mk ha
  have HV := Aside0.mk hv
  have HG : Aside0 (B ≤ w.heap.size) := ⟨by obtain ⟨_, h1, h2, _⟩ := hO; exact Nat.le_trans h2 (Nat.le_of_lt (blk_lt h1))⟩
  unfold setL setErr
  by_cases hz : slotErr l a i = 0
  · have HSE := Aside0.mk hz
    rw [if_pos hz]
    cases hm : mayP l.length v with
    | false =>
      have HM := Aside0.mk hm
      rw [if_neg (by decide), if_neg (by decide)]
      clear hz hm hO hl ha hv
      go_enter Try.func31, Try.ntmps31
      go_wp2_with (first | (go_at_call 67; (with_reducible refine (heap_slot g a i l o wd u _ (HH.out.below (Drawn0.below (by repeat (first | exact Drawn0.refl _ | apply Drawn0.step)))) HL.out HA.out).mono ?_); rintro e w' ⟨rfl, ⟨nd, rfl⟩⟩; rw [HSE.out]) | (go_at_call 56; (with_reducible refine (heap_may g v l o wd u _ (HH.out.below (Drawn0.below (by repeat (first | exact Drawn0.refl _ | apply Drawn0.step)))) HV.out HL.out).mono ?_); rintro e w' ⟨rfl, ⟨nd, rfl⟩⟩; rw [HM.out]))
      go_ret
      exact ⟨rfl, HO.out.below (Drawn0.below (by repeat (first | exact Drawn0.refl _ | apply Drawn0.step))), Frm.of_below (Drawn0.below (by repeat (first | exact Drawn0.refl _ | apply Drawn0.step)))⟩
    | true =>
      have HM := Aside0.mk hm
      rw [if_pos rfl, if_pos rfl]
      have hz' := hz
      have ht : thereP l.length a = true := by
        unfold slotErr at hz
        cases ht : thereP l.length a with
        | true => rfl
        | false => rw [if_neg (by rw [ht]; decide)] at hz; exact absurd hz (by decide)
      unfold slotErr at hz'
      rw [if_pos ht] at hz'
      have hi : 0 ≤ i ∧ i < ((objectL l a).f1.length : Int) := by
        by_cases hi : 0 ≤ i ∧ i < ((objectL l a).f1.length : Int)
        · exact hi
        · rw [if_neg hi] at hz'; exact absurd hz' (by decide)
      clear hz'
      have HEO : objectL l a = rd_T53 l (a / 2) := by unfold objectL; rw [ht]; rfl
      rw [HEO] at hi
      obtain ⟨j, okj, hj, hth, hjx, hj0⟩ := index_tells ha l.length hl
      rw [ht] at hth
      obtain rfl := hjx ht
      have HI := Aside0.mk hj
      have HT := Aside0.mk hth
      have hta := thereP_at ht
      have p0 : (0 ≤ a / 2) = True := eq_true hj0
      have p1 : (a / 2 < (l.length : Int)) = True := eq_true hta.2
      have p2 : (0 ≤ i) = True := eq_true hi.1
      have p3 : (i < ((rd_T53 l (a / 2)).f1.length : Int)) = True := eq_true hi.2
      have HIX := Aside0.mk hi
      have HJX := Aside0.mk (show 0 ≤ a / 2 ∧ a / 2 < (l.length : Int) from ⟨hj0, hta.2⟩)
      clear hth hj hjx HEO hz hO hl ha hv hm ht hi hta hj0
      go_enter Try.func31, Try.ntmps31
      go_wp2_with (first | (go_at_call 67; (with_reducible refine (heap_slot g a i l o wd u _ (HH.out.below (Drawn0.below (by repeat (first | exact Drawn0.refl _ | apply Drawn0.step)))) HL.out HA.out).mono ?_); rintro e w' ⟨rfl, ⟨nd, rfl⟩⟩; rw [HSE.out]) | (go_at_call 56; (with_reducible refine (heap_may g v l o wd u _ (HH.out.below (Drawn0.below (by repeat (first | exact Drawn0.refl _ | apply Drawn0.step)))) HV.out HL.out).mono ?_); rintro e w' ⟨rfl, ⟨nd, rfl⟩⟩; rw [HM.out]) | (go_at_call 68; (with_reducible refine (heap_at g a l o wd u _ _ _ (HH.out.below (Drawn0.below (by repeat (first | exact Drawn0.refl _ | apply Drawn0.step)))) HI.out).mono ?_); rintro e w' ⟨rfl, hd⟩; rw [HT.out]; have HO2 := Aside0.mk (HO.out.below (below_step (Drawn0.below (by repeat (first | exact Drawn0.refl _ | apply Drawn0.step))) hd.below)); have HB2 := Aside0.mk (Frm.of_below (ok := ok) (w := w) (below_step (Drawn0.below (by repeat (first | exact Drawn0.refl _ | apply Drawn0.step))) hd.below)); obtain ⟨v0, k1, k2, k3, k4⟩ := HO2.out; obtain ⟨A, c, ev⟩ := Kd.S_slice k4; subst ev; obtain ⟨ad, hA, hgB, hgs⟩ : ∃ ad, A = some ⟨ad, 0, none⟩ ∧ B ≤ ad ∧ True := by { obtain ⟨g0, cap0, e0, h0, _⟩ := Kd.S_form k4 (by have := HJX.out; omega); injection e0 with e1 _ _; exact ⟨g0, e1, h0, trivial⟩ }; subst hA; obtain ⟨b, c1, s1, s2, s3, s4, s5, s6, s7⟩ := S_slot2 k4 (a / 2) HJX.out.1 (by have := HJX.out.2; exact this) i HIX.out.1 HIX.out.2 v; have hc0 : w'.cell? ⟨g, 0, none⟩ = some (.slice (some ⟨ad, 0, none⟩) l.length c) := (blk_cell k1 0).trans rfl; have hbg := cell_apart k1 (fun _ => by simp) s4; have HN := Aside0.mk (show HeapO (w'.setCell ⟨b, i.toNat, none⟩ (.int .u64 v)) g B ok (putL l a i v) o wd u from ⟨.slice (some ⟨ad, 0, none⟩) l.length c, by rw [Below.heap_setCell _ _ _ _ (fun e => hbg e.symm)]; exact k1, k2, k3, s6⟩); have HBN := Aside0.mk (HB2.out.setCell (p := ⟨b, i.toNat, none⟩) s2 (.int .u64 v)); clear k1 k2 k3 k4 s6 s7 s2 s3 hbg hgB HO2 HB2; clear hd))
      go_ret
      exact ⟨rfl, HN.out, HBN.out⟩
  · rw [if_neg hz]
    obtain ⟨n, hn⟩ : ∃ n : Int, n = slotErr l a i := ⟨_, rfl⟩
    rw [← hn] at hz ⊢
    rw [if_neg hz]
    have HSE := Aside0.mk hn.symm
    have z1 : (n == 0) = false := by simpa using hz
    have z2 : (n != 0) = true := by simpa using hz
    clear hz hn hO hl ha hv
    go_enter Try.func31, Try.ntmps31
    go_wp2_with (first | (go_at_call 67; (with_reducible refine (heap_slot g a i l o wd u _ (HH.out.below (Drawn0.below (by repeat (first | exact Drawn0.refl _ | apply Drawn0.step)))) HL.out HA.out).mono ?_); rintro e w' ⟨rfl, ⟨nd, rfl⟩⟩; rw [HSE.out]))
    go_ret
    exact ⟨rfl, HO.out.below (Drawn0.below (by repeat (first | exact Drawn0.refl _ | apply Drawn0.step))), Frm.of_below (Drawn0.below (by repeat (first | exact Drawn0.refl _ | apply Drawn0.step)))⟩
set_option maxHeartbeats 16000000 in
set_option maxRecDepth 100000 in
theorem heap_SetClassF (g B : Nat) (ok : Nat → Prop) (a c : Int) (l : List S53) (o wd u : Int) (w : World) (hO : HeapO w g B ok l o wd u) (hl : l.length ≤ 5000) (ha : W64 a) (hv : W64 c) :
    Calls Try.prog 32 #[.pointer (some ⟨g, 0, none⟩), .int .u64 a, .int .u64 c] w fun e w' => e = .returned (.int .i64 (setCErr l a c)) ∧ HeapO w' g B ok (setCL l a c) o wd u ∧ Frm ok w w' := by
  have HH := Aside0.mk hO.reads
  have HO := Aside0.mk hO
  have HL := Aside0.mk hl
  have HA := Aside0.mk ha
  have HV := Aside0.mk hv
  have HG : Aside0 (B ≤ w.heap.size) := ⟨by obtain ⟨_, h1, h2, _⟩ := hO; exact Nat.le_trans h2 (Nat.le_of_lt (blk_lt h1))⟩
  unfold setCL setCErr
  obtain ⟨j, okj, hj, hth, hjx, hj0⟩ := index_tells ha l.length hl
  have HI := Aside0.mk hj
  have HT := Aside0.mk hth
  cases ht : thereP l.length a with
  | false =>
    rw [if_neg (by simp), if_neg (by decide)]
    rw [ht] at HT
    clear hth hj hjx hj0 hO hl ha hv ht
    go_enter Try.func32, Try.ntmps32
    go_wp2_with (first | (go_at_call 68; (with_reducible refine (heap_at g a l o wd u _ _ _ (HH.out.below (Drawn0.below (by repeat (first | exact Drawn0.refl _ | apply Drawn0.step)))) HI.out).mono ?_); rintro e w' ⟨rfl, ⟨nd, rfl⟩⟩; rw [HT.out]) | (go_at_call 53; (with_reducible refine (heap_there g c l o wd u _ (HH.out.below (Drawn0.below (by repeat (first | exact Drawn0.refl _ | apply Drawn0.step)))) HV.out HL.out).mono ?_); rintro e w' ⟨rfl, ⟨nd, rfl⟩⟩))
    go_ret
    exact ⟨rfl, HO.out.below (Drawn0.below (by repeat (first | exact Drawn0.refl _ | apply Drawn0.step))), Frm.of_below (Drawn0.below (by repeat (first | exact Drawn0.refl _ | apply Drawn0.step)))⟩
  | true =>
    obtain rfl := hjx ht
    have hta := thereP_at ht
    rw [ht] at HT
    cases hm : thereP l.length c with
    | false =>
      have HM := Aside0.mk hm
      rw [if_neg (by simp), if_neg (by decide)]
      clear hth hj hjx hj0 hO hl ha hv ht hm hta
      go_enter Try.func32, Try.ntmps32
      go_wp2_with (first | (go_at_call 68; (with_reducible refine (heap_at g a l o wd u _ _ _ (HH.out.below (Drawn0.below (by repeat (first | exact Drawn0.refl _ | apply Drawn0.step)))) HI.out).mono ?_); rintro e w' ⟨rfl, ⟨nd, rfl⟩⟩; rw [HT.out]) | (go_at_call 53; (with_reducible refine (heap_there g c l o wd u _ (HH.out.below (Drawn0.below (by repeat (first | exact Drawn0.refl _ | apply Drawn0.step)))) HV.out HL.out).mono ?_); rintro e w' ⟨rfl, ⟨nd, rfl⟩⟩; rw [HM.out]))
      go_ret
      exact ⟨rfl, HO.out.below (Drawn0.below (by repeat (first | exact Drawn0.refl _ | apply Drawn0.step))), Frm.of_below (Drawn0.below (by repeat (first | exact Drawn0.refl _ | apply Drawn0.step)))⟩
    | true =>
      have HM := Aside0.mk hm
      rw [if_pos (by simp), if_pos rfl]
      have p0 : (0 ≤ a / 2) = True := eq_true hj0
      have p1 : (a / 2 < (l.length : Int)) = True := eq_true hta.2
      have HJX := Aside0.mk (show 0 ≤ a / 2 ∧ a / 2 < (l.length : Int) from ⟨hj0, hta.2⟩)
      clear hth hj hjx hO hl ha hv hm ht hta hj0
      go_enter Try.func32, Try.ntmps32
      go_wp2_with (first | (go_at_call 68; (with_reducible refine (heap_at g a l o wd u _ _ _ (HH.out.below (Drawn0.below (by repeat (first | exact Drawn0.refl _ | apply Drawn0.step)))) HI.out).mono ?_); rintro e w' ⟨rfl, ⟨nd, rfl⟩⟩; rw [HT.out]) | (go_at_call 53; (with_reducible refine (heap_there g c l o wd u _ (HH.out.below (Drawn0.below (by repeat (first | exact Drawn0.refl _ | apply Drawn0.step)))) HV.out HL.out).mono ?_); rintro e w' ⟨rfl, hd⟩; rw [HM.out]; have HO2 := Aside0.mk (HO.out.below (below_step (Drawn0.below (by repeat (first | exact Drawn0.refl _ | apply Drawn0.step))) hd.below)); have HB2 := Aside0.mk (Frm.of_below (ok := ok) (w := w) (below_step (Drawn0.below (by repeat (first | exact Drawn0.refl _ | apply Drawn0.step))) hd.below)); obtain ⟨v0, k1, k2, k3, k4⟩ := HO2.out; obtain ⟨A, cc, ev⟩ := Kd.S_slice k4; subst ev; obtain ⟨ad, hA, hgB, hgs⟩ : ∃ ad, A = some ⟨ad, 0, none⟩ ∧ B ≤ ad ∧ True := by { obtain ⟨g0, cap0, e0, h0, _⟩ := Kd.S_form k4 (by have := HJX.out; omega); injection e0 with e1 _ _; exact ⟨g0, e1, h0, trivial⟩ }; subst hA; obtain ⟨s1, s2, s3, s4⟩ := S_class k4 (a / 2) HJX.out.1 (by have := HJX.out.2; exact this) c; have hc0 : w'.cell? ⟨g, 0, none⟩ = some (.slice (some ⟨ad, 0, none⟩) l.length cc) := (blk_cell k1 0).trans rfl; have hbg := cell_apart k1 (fun _ => by simp) s1; have HN := Aside0.mk (show HeapO (w'.setCell ⟨ad, (a / 2).toNat * 3, none⟩ (.int .u64 c)) g B ok (putCL l a c) o wd u from ⟨.slice (some ⟨ad, 0, none⟩) l.length cc, by rw [Below.heap_setCell _ _ _ _ (fun e => hbg e.symm)]; exact k1, k2, k3, s3⟩); have HBN := Aside0.mk (HB2.out.setCell (p := ⟨ad, (a / 2).toNat * 3, none⟩) ((Kd.S_R k4).1 ad (by simp [Value.ownBlock])) (.int .u64 c)); clear k1 k2 k3 k4 s3 s4 hbg hgB HO2 HB2; clear hd))
      go_ret
      exact ⟨rfl, HN.out, HBN.out⟩
end Go.Proofs.Ytiokegmpooildaa.Hp
