/- Objects written: a class, a slot. -/
import Derived.Test.YtiokegmpooildaaOf0
namespace Go.Proofs.Ytiokegmpooildaa.Hp
open Go.RowKit Go.Proofs.YtiokegmpooildaaW.PrintWords Go.Proofs.YtiokegmpooildaaW.PrintLast Go.Proofs.YtiokegmpooildaaW.PrintMore Go.Proofs.Ytiokegmpooildaa.PAll
set_option linter.unusedVariables false
set_option linter.unusedSimpArgs false
section
variable {W : World} {base g n cap : Nat} {ok : Nat → Prop} {xs : List S53}
/-- l[i].Class = u. -/
theorem S_class (h : Kd.S k53 53 W base ok (.slice (some ⟨g, 0, none⟩) n cap) xs) (i : Int) (h0 : 0 ≤ i) (h1 : i < n) (u : Int) :
    W.cell? ⟨g, i.toNat * 3, none⟩ = some (.int .u64 (rd_T53 xs i).f0) ∧ W.frozen? ⟨g, i.toNat * 3, none⟩ = false ∧
      Kd.S k53 53 (W.setCell ⟨g, i.toNat * 3, none⟩ (.int .u64 u)) base ok (.slice (some ⟨g, 0, none⟩) n cap) (xs.set i.toNat ⟨u, (rd_T53 xs i).f1, (rd_T53 xs i).f2⟩) ∧ W.grownBy (W.setCell ⟨g, i.toNat * 3, none⟩ (.int .u64 u)) (some g) := by
  have h' := Kd.S_mono (ok' := fun k => ok k ∧ ¬ (fun _ => False) k) h (fun k hk => ⟨hk, fun f => f⟩)
  obtain ⟨oki, c, hcl, hM, hcc, hfr, hoki, hH⟩ := Kd.S_elem h' z53 i h0 h1
  obtain ⟨v1, v2, rfl, g1, g2⟩ := k53_openM hM
  have hM2 : k53.M W base oki (⟨u, (rd_T53 xs i).f1, (rd_T53 xs i).f2⟩ : S53) [.int .u64 u, v1, v2] := k53_mkM W base oki (⟨u, (rd_T53 xs i).f1, (rd_T53 xs i).f2⟩ : S53) g1 g2
  have hS := Kd.S_seg (okg := fun _ => False) (seg := [.int .u64 u]) (j := 0) hH h0 h1 (show 1 ≤ 3 by decide) hM2 (fun k hk => Or.inl hk) (fun k hk => hk.elim)
  refine ⟨hcc 0 _ rfl, hfr 0, ?_, ?_⟩
  · exact hS.1
  · exact hS.2
/-- l[i].Slots[k] = u. -/
theorem S_slot (h : Kd.S k53 53 W base ok (.slice (some ⟨g, 0, none⟩) n cap) xs) (i : Int) (h0 : 0 ≤ i) (h1 : i < n) (k : Int) (k0 : 0 ≤ k) (k1 : k < ((rd_T53 xs i).f1.length : Int)) (u : Int) :
    ∃ b c1, W.cell? ⟨g, i.toNat * 3 + 1, none⟩ = some (.slice (some ⟨b, 0, none⟩) (rd_T53 xs i).f1.length c1) ∧ base ≤ b ∧ b ≠ g ∧ W.cell? ⟨b, k.toNat, none⟩ = some (.int .u64 (rd (rd_T53 xs i).f1 k)) ∧ W.frozen? ⟨b, k.toNat, none⟩ = false ∧
      Kd.S k53 53 (W.setCell ⟨b, k.toNat, none⟩ (.int .u64 u)) base ok (.slice (some ⟨g, 0, none⟩) n cap) (xs.set i.toNat ⟨(rd_T53 xs i).f0, (rd_T53 xs i).f1.set k.toNat u, (rd_T53 xs i).f2⟩) ∧ W.grownBy (W.setCell ⟨b, k.toNat, none⟩ (.int .u64 u)) (some b) := by
  obtain ⟨oki, c, hcl, hM, hcc, hoki, hback⟩ := Kd.S_borrow h z53 i h0 h1
  obtain ⟨v1, v2, rfl, g1, g2⟩ := k53_openM hM
  obtain ⟨b, c1, rfl, hb, _, cells, hbk⟩ := Kd.R_form g1 (show 0 < (rd_T53 xs i).f1.length from by omega)
  have hob : oki b := g1.1 b (by simp [Value.ownBlock])
  have hp := Kd.R_put (enc := Value.int .u64) (h1 := fun _ => rfl) g1 k u
  have hc := Kd.R_cell (enc := Value.int .u64) (h1 := fun _ => rfl) (0 : Int) g1 k k0 k1
  have g2' := Kd.R_over' (v := .slice (some ⟨b, 0, none⟩) (rd_T53 xs i).f1.length c1) g2 (Kd.R_typed g1) (by decide) hp.2
  refine ⟨b, c1, ?_, hb, ?_, hc.1, hc.2, ?_, hp.2⟩
  · have := hcc 1 _ rfl
    rw [add_at, Nat.zero_add] at this
    exact this
  · have := (hoki b hob).2
    exact fun e => this (by rw [e]; simp [Value.ownBlock])
  · exact hback hp.2 (fun k hk => by obtain rfl := Option.some.inj hk; exact hob) (k53_mkM _ _ _ (⟨(rd_T53 xs i).f0, (rd_T53 xs i).f1.set k.toNat u, (rd_T53 xs i).f2⟩ : S53) hp.1 g2')
end
end Go.Proofs.Ytiokegmpooildaa.Hp
