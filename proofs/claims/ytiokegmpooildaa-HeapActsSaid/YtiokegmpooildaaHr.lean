/- slices.IndexFunc and slices.ContainsFunc by the closure that asks whether a word may not stand in a heap. -/
import Derived.Test.YtiokegmpooildaaHq
import Derived.Outline
namespace Go.Proofs.Ytiokegmpooildaa.Hp
open Go.RowKit Go.Proofs.YtiokegmpooildaaW.PrintWords Go.Proofs.YtiokegmpooildaaW.PrintLast Go.Proofs.YtiokegmpooildaaW.PrintMore Go.Proofs.Ytiokegmpooildaa.PAll
set_option linter.unusedVariables false
set_option linter.unusedSimpArgs false
def SomeAt (b : Bool) (w : World) (e : Ending) (w' : World) : Prop := (∃ r : Int, e = .returned (.int .i64 r) ∧ decide (0 ≤ r) = b) ∧ Drawn0 w w'
theorem any_take_next {p : Int → Bool} {xs : List Int} {i : Int} (h0 : 0 ≤ i) (h1 : i < (xs.length : Int)) : (xs.take (i + 1).toNat).any p = ((xs.take i.toNat).any p || p (rd xs i)) := by
  have e : (i + 1).toNat = i.toNat + 1 := by omega
  rw [e, List.take_succ_eq_append_getElem (by omega), List.any_append]
  unfold rd
  rw [List.getD_eq_getElem?_getD, List.getElem?_eq_getElem (by omega)]
  simp
theorem rd_mem {xs : List Int} {i : Int} (h0 : 0 ≤ i) (h1 : i < (xs.length : Int)) : rd xs i ∈ xs := by
  unfold rd
  rw [List.getD_eq_getElem?_getD, List.getElem?_eq_getElem (by omega)]
  exact List.getElem_mem _
theorem any_of_take {p : Int → Bool} {xs : List Int} {i : Int} (h : (xs.take i.toNat).any p = true) : xs.any p = true := by
  rw [List.any_eq_true] at h ⊢
  obtain ⟨x, hx, hp⟩ := h
  exact ⟨x, List.mem_of_mem_take hx, hp⟩

set_option maxHeartbeats 4000000 in
set_option maxRecDepth 100000 in
theorem index_func (hb g : Nat) (A : Option Addr) (c : Nat) (xs : List Int) (l : List S53) (o wd u : Int) (w : World) (hr : Kd.C (Kd.int .u64) w A xs.length xs) (hm : xs.length ≤ 100000) (hx : ∀ a ∈ xs, W64 a)
    (hc : w.cell? ⟨hb, 0, none⟩ = some (.pointer (some ⟨g, 0, none⟩))) (hH : HeapC w g l o wd u) (hl : l.length ≤ 5000) :
    Calls Try.prog 74 #[.slice A xs.length c, .func (.func 55) #[] #[.pointer (some ⟨hb, 0, none⟩)]] w (SomeAt (xs.any fun a => !mayP l.length a) w) := by
  have HR := Aside0.mk hr
  have HX := Aside0.mk hx
  have HP := Aside0.mk hc
  have HH := Aside0.mk hH
  have HL := Aside0.mk hl
  clear hr hx hc hH hl
  go_enter Try.func74, Try.ntmps74
  go_wp2
  go_loopg [8] xs.length (fun kq v8 w' => ∃ x : Int, v8 = .int .i64 x ∧ 0 ≤ x ∧ x ≤ xs.length ∧ Aside0 ((kq : Int) + x = xs.length) ∧ Aside0 ((xs.take x.toNat).any (fun a => !mayP l.length a) = false) ∧ Aside0 (Drawn0 w w'))
  case atStart => exact ⟨0, rfl, by omega, by omega, ⟨by simp⟩, ⟨by simp⟩, ⟨Drawn0.refl _⟩⟩
  case round =>
    obtain ⟨x, rfl, p0, p1, HK, HN, HD⟩ := hrel
    obtain ⟨nr, hnr⟩ := HD.out.out
    subst hnr
    by_cases hlt : x < (xs.length : Int)
    · obtain ⟨ad, e0, hx0⟩ := Kd.at_int HR.out x p0 hlt
      cases e0
      have c3b0 : decide (x < (xs.length : Int)) = true := decide_eq_true hlt
      have HM := Aside0.mk (HX.out _ (rd_mem p0 hlt))
      have HNX := Aside0.mk (any_take_next (p := fun a => !mayP l.length a) p0 hlt)
      cases hp : (!mayP l.length (rd xs x)) with
      | true =>
        have HQ := Aside0.mk hp
        clear hp
        go_wp2_with (first | (go_at_call 55; (with_reducible refine (of_asks hb g (rd xs x) l o wd u _ ?side1 (HH.out.below (Drawn0.below (by repeat (first | exact HD.out | apply Drawn0.step)))) HM.out HL.out).mono ?_); (case side1 => exact HP.out); rintro e w' ⟨rfl, ⟨nd, rfl⟩⟩; rw [HQ.out]))
        go_ret
        refine ⟨⟨x, rfl, ?_⟩, by repeat (first | exact Drawn0.refl _ | apply Drawn0.step)⟩
        rw [decide_eq_true p0, eq_comm]
        refine any_of_take (i := x + 1) ?_
        rw [HNX.out, HQ.out, Bool.or_true]
      | false =>
        have HQ := Aside0.mk hp
        clear hp
        go_wp2_with (first | (go_at_call 55; (with_reducible refine (of_asks hb g (rd xs x) l o wd u _ ?side1 (HH.out.below (Drawn0.below (by repeat (first | exact HD.out | apply Drawn0.step)))) HM.out HL.out).mono ?_); (case side1 => exact HP.out); rintro e w' ⟨rfl, ⟨nd, rfl⟩⟩; rw [HQ.out]))
        go_roundg (gk - 1)
        case measure => have := HK.out; omega
        case rel => exact ⟨x + 1, (by first | rfl | go_num), by omega, by omega, ⟨by have := HK.out; omega⟩, ⟨by rw [HNX.out, HN.out, HQ.out]; rfl⟩, ⟨by repeat (first | exact Drawn0.refl _ | apply Drawn0.step)⟩⟩
    · have c3b0 : decide (x < (xs.length : Int)) = false := decide_eq_false hlt
      have HE := Aside0.mk (show xs.take x.toNat = xs from List.take_of_length_le (by omega))
      go_wp2
      go_ret
      refine ⟨⟨-1, rfl, ?_⟩, by repeat (first | exact Drawn0.refl _ | apply Drawn0.step)⟩
      have := HN.out
      rw [HE.out] at this
      rw [this]
      rfl

set_option maxHeartbeats 4000000 in
set_option maxRecDepth 100000 in
theorem contains_func (hb g : Nat) (A : Option Addr) (c : Nat) (xs : List Int) (l : List S53) (o wd u : Int) (w : World) (hr : Kd.C (Kd.int .u64) w A xs.length xs) (hm : xs.length ≤ 100000) (hx : ∀ a ∈ xs, W64 a)
    (hc : w.cell? ⟨hb, 0, none⟩ = some (.pointer (some ⟨g, 0, none⟩))) (hH : HeapC w g l o wd u) (hl : l.length ≤ 5000) :
    Calls Try.prog 54 #[.slice A xs.length c, .func (.func 55) #[] #[.pointer (some ⟨hb, 0, none⟩)]] w fun e w' => e = .returned (.bool (xs.any fun a => !mayP l.length a)) ∧ Drawn0 w w' := by
  have HI := Aside0.mk (index_func hb g A c xs l o wd u w hr hm hx hc hH hl)
  clear hr hm hx hc hH hl
  go_enter Try.func54, Try.ntmps54
  go_wp2_with (first | ((with_reducible refine gate_callee (f := 74) rfl ?_); refine goesL_ (some 7) rfl rfl Try.func74 (by kernel_rfl) rfl #[.slice A xs.length c, .func (.func 55) #[] #[.pointer (some ⟨hb, 0, none⟩)]] rfl (by (try simp only [List.map_toArray, List.map_cons, List.map_nil]); first | done | rfl) ?_; (with_reducible refine HI.out.mono ?_); rintro e w' ⟨⟨r, rfl, hq⟩, ⟨nd, rfl⟩⟩; have HQ := Aside0.mk hq; clear hq; refine ⟨_, rfl, ?_⟩))
  go_ret
  exact ⟨by rw [← HQ.out]; rfl, by repeat (first | exact Drawn0.refl _ | apply Drawn0.step)⟩
end Go.Proofs.Ytiokegmpooildaa.Hp
