/- What a call leaves alone: the blocks that are not its own. -/
import Derived.Test.YtiokegmpooildaaSt
import Derived.Test.YtiokegmpooildaaBs
namespace Go.Proofs.Ytiokegmpooildaa.Hp
open Go.RowKit Go.Proofs.YtiokegmpooildaaW.PrintWords Go.Proofs.YtiokegmpooildaaW.PrintLast Go.Proofs.YtiokegmpooildaaW.PrintMore Go.Proofs.Ytiokegmpooildaa.PAll
set_option linter.unusedVariables false
set_option linter.unusedSimpArgs false
/-- The blocks that are not ok stay as they are. -/
def Frm (ok : Nat → Prop) (w w' : World) : Prop := Below 0 w w' ∧ ∀ k, k < w.heap.size → ¬ ok k → w'.heap[k]? = w.heap[k]?
theorem Frm.refl (ok : Nat → Prop) (w : World) : Frm ok w w := ⟨Below.refl _ _, fun _ _ _ => rfl⟩
theorem Frm.of_below {ok : Nat → Prop} {w w' : World} (h : Below w.heap.size w w') : Frm ok w w' := ⟨h.mono (Nat.zero_le _), fun k hk _ => h.block k hk⟩
theorem Frm.trans {ok : Nat → Prop} {a b c : World} (h : Frm ok a b) (k : Frm ok b c) : Frm ok a c :=
  ⟨h.1.trans k.1, fun j hj hn => (k.2 j (Nat.lt_of_lt_of_le hj h.1.size) hn).trans (h.2 j hj hn)⟩
theorem Frm.setCell {ok : Nat → Prop} {a b : World} (h : Frm ok a b) {p : Addr} (hp : ok p.block) (u : Value) : Frm ok a (b.setCell p u) :=
  ⟨h.1.setCell (Nat.zero_le _) u, fun j hj hn => (Below.heap_setCell b p u j (fun e => hn (e ▸ hp))).trans (h.2 j hj hn)⟩
theorem Frm.grown {ok : Nat → Prop} {a b c : World} (h : Frm ok a b) {row : Option Nat} (hg : b.grownBy c row) (hr : ∀ k, row = some k → ok k) : Frm ok a c :=
  ⟨h.1.grown hg (Nat.zero_le _) (fun _ _ => Nat.zero_le _), fun j hj hn => (hg.block j (Nat.lt_of_lt_of_le hj h.1.size) (fun e => hn (hr j e.symm))).trans (h.2 j hj hn)⟩
theorem Frm.mono {ok ok' : Nat → Prop} {a b : World} (h : Frm ok a b) (hk : ∀ k, ok k → ok' k) : Frm ok' a b := ⟨h.1, fun j hj hn => h.2 j hj (fun h2 => hn (hk j h2))⟩
theorem Frm.below {ok : Nat → Prop} {a b : World} {B : Nat} (h : Frm ok a b) (hB : B ≤ a.heap.size) (hk : ∀ k, ok k → B ≤ k) : Below B a b :=
  ⟨h.1.os, h.1.tape, h.1.output, h.1.size, fun k hk2 => h.2 k (Nat.lt_of_lt_of_le hk2 hB) (fun h2 => by have := hk k h2; omega)⟩
theorem S_slot2 {W : World} {base g n cap : Nat} {ok : Nat → Prop} {xs : List S53} (h : Kd.S k53 53 W base ok (.slice (some ⟨g, 0, none⟩) n cap) xs) (i : Int) (h0 : 0 ≤ i) (h1 : i < n) (k : Int) (k0 : 0 ≤ k) (k1 : k < ((rd_T53 xs i).f1.length : Int)) (u : Int) :
    ∃ b c1, W.cell? ⟨g, i.toNat * 3 + 1, none⟩ = some (.slice (some ⟨b, 0, none⟩) (rd_T53 xs i).f1.length c1) ∧ ok b ∧ b ≠ g ∧ W.cell? ⟨b, k.toNat, none⟩ = some (.int .u64 (rd (rd_T53 xs i).f1 k)) ∧ W.frozen? ⟨b, k.toNat, none⟩ = false ∧
      Kd.S k53 53 (W.setCell ⟨b, k.toNat, none⟩ (.int .u64 u)) base ok (.slice (some ⟨g, 0, none⟩) n cap) (xs.set i.toNat ⟨(rd_T53 xs i).f0, (rd_T53 xs i).f1.set k.toNat u, (rd_T53 xs i).f2⟩) ∧ W.grownBy (W.setCell ⟨b, k.toNat, none⟩ (.int .u64 u)) (some b) := by
  obtain ⟨b, c1, s1, s2, s3, s4, s5, s6, s7⟩ := S_slot h i h0 h1 k k0 k1 u
  obtain ⟨oki, c, hcl, hM, hcc, hoki, hback⟩ := Kd.S_borrow h z53 i h0 h1
  obtain ⟨v1, v2, rfl, g1, g2⟩ := k53_openM hM
  obtain ⟨b2, c2, rfl, hb, _, cells, hbk⟩ := Kd.R_form g1 (show 0 < (rd_T53 xs i).f1.length from by omega)
  have hob : oki b2 := g1.1 b2 (by simp [Value.ownBlock])
  have hh := hcc 1 _ rfl
  rw [add_at, Nat.zero_add] at hh
  have e := Option.some.inj (s1.symm.trans hh)
  injection e with e _ _
  injection e with e
  injection e with e
  subst e
  exact ⟨b, c1, s1, (hoki b hob).1, s3, s4, s5, s6, s7⟩
end Go.Proofs.Ytiokegmpooildaa.Hp
