/- PlanTurned's plain statement: packages in another order are planned the same. -/
import Derived.Test.YtgfdcakeplamnaaDoorPAllx5
import Derived.Test.YtgfdcakeplamnaaDoorPAllx4
import Derived.Test.YtgfdcakeplamnaaDoorPj
import Derived.Test.YtgfdcakeplamnaaDoorHt
namespace Go.Proofs.YtgfdcakeplamnaaDoor.Pure
open Go.RowKit Go.Proofs.YtgfdcakeplamnaaDoor.PAll Go.Proofs.YtgfdcakeplamnaaDoorW.PrintWords Go.Proofs.YtgfdcakeplamnaaDoorW.PrintLast Go.Proofs.YtgfdcakeplamnaaDoor.PAll.Hd
set_option linter.unusedVariables false
theorem awake28 : Ev (fun k => monticulelaw28_awake.f k) true := Ev.of (fun k => monticulelaw28_awake.mono k) (k := 70) (by kernel_rfl)
theorem turned_perm (ps : List S34) (turn : Int) (hps : ps.length ≤ 8) : (Go.Proofs.YtgfdcakeplamnaaDoor.Hd.turnedP ps turn).Perm ps := by
  by_cases h0 : 0 < ps.length
  · obtain ⟨ra, rb⟩ := Go.Proofs.YtgfdcakeplamnaaDoor.Hd.rest_in ps.length turn h0 (by omega)
    obtain ⟨R, hR⟩ : ∃ R, R = Int.tmod (wrap64 (Int.tmod turn (ps.length : Int) + (ps.length : Int))) (ps.length : Int) := ⟨_, rfl⟩
    rw [← hR] at ra rb
    have e : Go.Proofs.YtgfdcakeplamnaaDoor.Hd.turnedP ps turn = ps.drop R.toNat ++ ps.take R.toNat := by
      apply List.ext_getElem
      · rw [Go.Proofs.YtgfdcakeplamnaaDoor.Hd.turned_len, List.length_append, List.length_drop, List.length_take]
        omega
      · intro i h1 h2
        have hi : i < ps.length := by rw [Go.Proofs.YtgfdcakeplamnaaDoor.Hd.turned_len] at h1; exact h1
        rw [Go.Proofs.YtgfdcakeplamnaaDoor.Hd.turned_at]
        have hp : Go.Proofs.YtgfdcakeplamnaaDoor.Hd.placeT ps.length turn i = Int.tmod ((i : Int) + R) (ps.length : Int) := by
          unfold Go.Proofs.YtgfdcakeplamnaaDoor.Hd.placeT
          rw [← hR, IntWalk.wrap64_in _ (by omega)]
        rw [hp, Int.tmod_eq_emod_of_nonneg (by omega)]
        by_cases hlt : (i : Int) + R < (ps.length : Int)
        · rw [Int.emod_eq_of_lt (by omega) hlt, show (i : Int) + R = ((i + R.toNat : Nat) : Int) by omega, rd34 ps (i + R.toNat) (by omega), List.getElem_append_left (by rw [List.length_drop]; omega), List.getElem_drop]
          congr 1
          omega
        · have hm : ((i : Int) + R) % (ps.length : Int) = (i : Int) + R - (ps.length : Int) := by
            rw [← Int.sub_emod_right, Int.emod_eq_of_lt (by omega) (by omega)]
          rw [hm, show (i : Int) + R - (ps.length : Int) = ((i + R.toNat - ps.length : Nat) : Int) by omega, rd34 ps (i + R.toNat - ps.length) (by omega), List.getElem_append_right (by rw [List.length_drop]; omega), List.getElem_take]
          congr 1
          rw [List.length_drop]
          omega
    rw [e]
    exact (List.perm_append_comm).trans (by rw [List.take_append_drop])
  · have : ps = [] := List.eq_nil_of_length_eq_zero (by omega)
    subst this
    exact List.Perm.refl _
theorem PlanTurned (th : List ByteArray) (ps : List S34) (turn : Int) : ∃ (k : Nat) (b1 b2 : Bool) (r r2 : List Int × Int × ByteArray), monticulelaw28_awake.f k = some true ∧ monticulelaw28_few.f k th = some b1 ∧ monticuleref28_Few.f k ps 8 = some b2 ∧
    (b1 = true → b2 = true → (ps.length ≤ 8 ∧ r.1.length ≤ 1000) ∧ plan_Order.f k th ps = some r ∧ plan_Order.f k th (Go.Proofs.YtgfdcakeplamnaaDoor.Hd.turnedP ps turn) = some r2 ∧ (r.2.1 = 0 ↔ r2.2.1 = 0) ∧ r.1.map (rd_T34 ps) = r2.1.map (rd_T34 (Go.Proofs.YtgfdcakeplamnaaDoor.Hd.turnedP ps turn)) ∧
      (∀ x ∈ r.1, 0 ≤ x ∧ x < (ps.length : Int)) ∧ (∀ x ∈ r2.1, 0 ≤ x ∧ x < ((Go.Proofs.YtgfdcakeplamnaaDoor.Hd.turnedP ps turn).length : Int))) := by
  obtain ⟨K0, h0⟩ := ev_out awake28
  obtain ⟨b1, hb1, hf1⟩ := few_tot th
  obtain ⟨b2, hb2, hf2⟩ := few28_tot ps 8 (by decide)
  obtain ⟨K1, h1⟩ := ev_out hb1
  obtain ⟨K2, h2⟩ := ev_out hb2
  by_cases hg : b1 = true ∧ b2 = true
  · obtain ⟨hth, _⟩ := hf1 hg.1
    obtain ⟨hps, hs⟩ := hf2 hg.2
    obtain ⟨r, r2, hr, hr2, hiff, hmap, hin, hin2⟩ := order_turned th ps (Go.Proofs.YtgfdcakeplamnaaDoor.Hd.turnedP ps turn) (turned_perm ps turn hps) (by omega) (by omega) hs
    obtain ⟨t, ht, hok⟩ := order_tot th ps (by omega) (by omega) hs
    have := ev_one hr ht
    subst this
    have hlr : r.1.length ≤ 1000 := by
      rcases hok with ⟨_, hp, _⟩ | ⟨_, e, _⟩ | ⟨_, _, e⟩
      · rw [hp.length_eq, nums_len]; omega
      · rw [e]; exact Nat.zero_le _
      · rw [e]; exact Nat.zero_le _
    obtain ⟨K3, h3⟩ := ev_out hr
    obtain ⟨K4, h4⟩ := ev_out hr2
    exact ⟨K0 + K1 + K2 + K3 + K4, b1, b2, r, r2, h0 _ (by omega), h1 _ (by omega), h2 _ (by omega), fun _ _ => ⟨⟨hps, hlr⟩, h3 _ (by omega), h4 _ (by omega), hiff, hmap, hin, hin2⟩⟩
  · exact ⟨K0 + K1 + K2, b1, b2, ([], 0, ⟨#[]⟩), ([], 0, ⟨#[]⟩), h0 _ (by omega), h1 _ (by omega), h2 _ (by omega), fun a b => absurd ⟨a, b⟩ hg⟩
end Go.Proofs.YtgfdcakeplamnaaDoor.Pure
