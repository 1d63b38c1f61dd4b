/- become.One's first closure: where a word leads. -/
import Derived.Test.YtiokegmpooildaaMw
namespace Go.Proofs.Ytiokegmpooildaa.Hp
open Go.RowKit Go.Proofs.YtiokegmpooildaaW.PrintWords Go.Proofs.YtiokegmpooildaaW.PrintLast Go.Proofs.YtiokegmpooildaaW.PrintMore Go.Proofs.Ytiokegmpooildaa.PAll
set_option linter.unusedVariables false
set_option linter.unusedSimpArgs false
set_option maxHeartbeats 16000000 in
set_option maxRecDepth 100000 in
theorem turn_func (hm b n : Nat) (m : Int → Option Int) (a : Int) (w : World) (hc : w.cell? ⟨hm, 0, none⟩ = some (.map (some b))) (hM : MapW w b n m) (ha : W64 a) :
    Calls Try.prog 62 #[.int .u64 a, .pointer (some ⟨hm, 0, none⟩)] w fun e w' => e = .returned (.int .u64 ((m a).getD a)) ∧ Drawn0 w w' := by
  have HM := Aside0.mk hM
  have HA := Aside0.mk ha
  clear hM ha
  cases hma : m a with
  | none =>
    have HMA := Aside0.mk hma
    clear hma
    go_enter Try.func62, Try.ntmps62
    go_wp2_with (first | ((with_reducible refine gate_dst (N := 9) rfl ?_); refine wpList_look_w _ rfl (.tmp 7) (.tmp 8) rfl b n m a rfl rfl HA.out (HM.out.below (Drawn0.below (by repeat (first | exact Drawn0.refl _ | apply Drawn0.step)))) ?_; rw [HMA.out]))
    go_ret
    exact ⟨rfl, (by repeat (first | exact Drawn0.refl _ | apply Drawn0.step))⟩
  | some t =>
    have HMA := Aside0.mk hma
    clear hma
    go_enter Try.func62, Try.ntmps62
    go_wp2_with (first | ((with_reducible refine gate_dst (N := 9) rfl ?_); refine wpList_look_w _ rfl (.tmp 7) (.tmp 8) rfl b n m a rfl rfl HA.out (HM.out.below (Drawn0.below (by repeat (first | exact Drawn0.refl _ | apply Drawn0.step)))) ?_; rw [HMA.out]))
    go_ret
    exact ⟨rfl, (by repeat (first | exact Drawn0.refl _ | apply Drawn0.step))⟩
end Go.Proofs.Ytiokegmpooildaa.Hp
