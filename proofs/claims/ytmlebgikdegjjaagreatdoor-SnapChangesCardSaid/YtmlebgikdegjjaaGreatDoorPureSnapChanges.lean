/- SnapChanges' plain statement: what becomes of a snapshot by any changes. -/
import Derived.Test.YtmlebgikdegjjaaGreatDoorPz
import Derived.Test.YtmlebgikdegjjaaGreatDoorUi
namespace Go.Proofs.YtmlebgikdegjjaaGreatDoor.Pure
open Go.RowKit Go.Proofs.YtmlebgikdegjjaaGreatDoor.PAll Go.Proofs.YtmlebgikdegjjaaGreatDoorW.PrintWords Go.Proofs.YtmlebgikdegjjaaGreatDoorW.PrintLast
open Go.Proofs.YtmlebgikdegjjaaGreatDoor.Hd (newL putL dropL SC kC changes_few changes_many changes_go)
set_option linter.unusedVariables false
theorem SnapChanges (A0 : Option Addr) (c0 : Nat) (l : List SD) (A1 : Option Addr) (c1 : Nat) (chs : List SC) (w : World) (hr0 : Kd.C k34 w A0 l.length l) (hc0 : l.length ≤ c0) (hr1 : Kd.C kC w A1 chs.length chs) (hc1 : chs.length ≤ c1) :
    Calls Tryz.prog 3 #[.slice A0 l.length c0, .slice A1 chs.length c1] w fun e w' => e = .returned (.bool true) ∧ Below w.heap.size w w' := by
  obtain ⟨bl, hbl, hfl⟩ := few07_tot l 10 (by decide)
  obtain ⟨K1, h1⟩ := ev_out hbl
  cases bl with
  | false => exact changes_few K1 keyS A0 c0 l A1 c1 chs w hr0 hc0 hr1 hc1 (h1 K1 (Nat.le_refl _))
  | true =>
    by_cases hn : chs.length ≤ 10
    case neg => exact changes_many K1 keyS A0 c0 l A1 c1 chs w hr0 hc0 hr1 hc1 (h1 K1 (Nat.le_refl _)) hn
    case pos =>
      obtain ⟨hln, hsl⟩ := hfl rfl
      obtain ⟨L, hL⟩ : ∃ L, L = l ++ (chs.filter fun c => smallB c.d).map fun c => c.d := ⟨_, rfl⟩
      have hlL : ∀ d ∈ l, d ∈ L := fun d hd => by rw [hL]; exact List.mem_append_left _ hd
      have hcL : ∀ c ∈ chs, smallB c.d = true → c.d ∈ L := fun c hc hb => by rw [hL]; exact List.mem_append_right _ (List.mem_map.2 ⟨c, List.mem_filter.2 ⟨hc, hb⟩, rfl⟩)
      have hLs : ∀ d ∈ L, smallB d = true := fun d hd => by
        rw [hL] at hd
        rcases List.mem_append.1 hd with hd | hd
        · exact hsl d hd
        · obtain ⟨c, hc, rfl⟩ := List.mem_map.1 hd
          exact (List.mem_filter.1 hc).2
      obtain ⟨K2, h2⟩ := all_ev (g := fun (d : SD) k => def_Key.f k d.f0 d.f1 d.f2 d.f3 d.f4 d.f5) (v := keyS) L (fun d hd => key_ev (hLs d hd))
      obtain ⟨K3, h3⟩ := all_ev (g := fun (d : SD) k => monticuleref07_Right.f k d.f0 d.f1 d.f2 d.f3 d.f4 d.f5) (v := rightB) L (fun d hd => rright_ev (hLs d hd))
      obtain ⟨K4, h4⟩ := all_ev (g := fun (c : SC) k => monticuleref07_Small.f k c.d.f0 c.d.f1 c.d.f2 c.d.f3 c.d.f4 c.d.f5) (v := fun c => smallB c.d) chs (fun c _ => Small_val _ _ _ _ _ _)
      obtain ⟨K5, h5⟩ := all_ev2 (g := fun (x y : SD) k => monticuleref07_Same.f k x.f0 x.f1 x.f2 x.f3 x.f4 x.f5 y.f0 y.f1 y.f2 y.f3 y.f4 y.f5) (v := smS) L L (fun x hx y _ => rsame_ev (hLs x hx))
      obtain ⟨K6, h6⟩ := ev_out (New_val (key := keyS) l (by omega) (fun x hx => rkey_ev (hLs x (hlL x hx))))
      obtain ⟨k, hk⟩ : ∃ k, k = K1 + K2 + K3 + K4 + K5 + K6 := ⟨_, rfl⟩
      exact changes_go smS rightB smallB L k keyS A0 c0 l A1 c1 chs w hr0 hc0 hr1 hc1 (h1 k (by omega)) hn hln hlL hcL
        (fun d hd => ⟨h2 k (by omega) d hd, key_lens (hLs d hd)⟩)
        (fun d hd => ⟨h3 k (by omega) d hd, right_key, wrong_key⟩)
        (fun c hc => h4 k (by omega) c hc)
        (fun x hx y hy => h5 k (by omega) x hx y hy)
        (fun x _ => smS_self x)
        (h6 k (by omega))
        (fun out ho hm d hd => (Put_val (key := keyS) out d (by omega) (fun x hx => rkey_ev (hLs x (hm x hx))) (rkey_ev (hLs d hd))).rounds)
        (fun out s ho hm => (Drop_val (key := keyS) out s (by omega) (fun x hx => rkey_ev (hLs x (hm x hx)))).rounds)
end Go.Proofs.YtmlebgikdegjjaaGreatDoor.Pure
