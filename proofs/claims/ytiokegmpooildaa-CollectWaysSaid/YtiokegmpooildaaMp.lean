/- Maps keyed by words: what is looked up, what is stored, key by key. -/
import Derived.Test.YtiokegmpooildaaHq
import Derived.Maps.Own
import Derived.Maps.OwnOps
import Derived.Maps.OwnSet
import Derived.Maps.Views
namespace Go.Proofs.Ytiokegmpooildaa.Hp
open Go.RowKit Go.Proofs.YtiokegmpooildaaW.PrintWords Go.Proofs.YtiokegmpooildaaW.PrintLast Go.Proofs.YtiokegmpooildaaW.PrintMore Go.Proofs.Ytiokegmpooildaa.PAll
open Go.Maps (Keyed int_keyed keyOf_int_mk)
set_option linter.unusedVariables false
set_option linter.unusedSimpArgs false
theorem wordKeyed : Keyed Try.prog 36 := int_keyed Try.underlying36
theorem wf_u64 {a : Int} (h : W64 a) : (Lit.int .u64 a).wf = true := by
  unfold W64 at h
  have h2 : a ≤ 18446744073709551615 := by omega
  simp only [Lit.wf, Bool.and_eq_true, decide_eq_true_eq]
  exact ⟨h.1, h2⟩
theorem wordKey {a : Int} (h : W64 a) : keyOf Try.prog 36 (.int .u64 a) = some (.int .u64 a) := keyOf_int_mk Try.underlying36 (wf_u64 h)
theorem plainElem_bool_inv {P : Program} {e : TypeId} (he : P.underlying e = some .bool) {v : Value} {z : DataW Unit × List MemPlace} (h : plainElem P e v = some z) : ∃ a, v = .bool a ∧ z = (.lit (.bool a), []) := by
  unfold plainElem at h
  rw [he] at h
  cases v <;> simp at h
  exact ⟨_, rfl, h.symm⟩
/-- A map of truths: which words are true in it. -/
def MapB (W : World) (b n : Nat) (seen : Int → Bool) : Prop :=
  ∃ D : DataW Unit, W.ownsMap Try.prog 36 (plainElem Try.prog 4) b n D ∧ ∀ a, W64 a → D.atKey (.int .u64 a) (.lit (.bool false)) = .lit (.bool (seen a))
theorem MapB.kept {W W' : World} {b n : Nat} {s : Int → Bool} {row : Option Nat} (h : MapB W b n s) (hg : W.grownBy W' row) (hne : some b ≠ row) : MapB W' b n s := by
  obtain ⟨D, h1, h2⟩ := h
  exact ⟨D, h1.kept hg hne, h2⟩
theorem MapB.lt {W : World} {b n : Nat} {s : Int → Bool} (h : MapB W b n s) : b < W.heap.size := by
  obtain ⟨D, h1, _⟩ := h
  exact h1.lt
theorem MapB.below {W W' : World} {b n : Nat} {s : Int → Bool} (h : MapB W b n s) (hb : Below W.heap.size W W') : MapB W' b n s := h.kept (grown_of_below hb none) (by simp)
theorem MapB.made (W : World) : MapB (W.alloc (.map #[] 0)) W.heap.size 0 (fun _ => false) := ⟨.map [], World.ownsMap_made _ _ _ _, fun a _ => rfl⟩
theorem zero4 (w : World) : (zeroValue 4).run Try.prog w = .ok (.bool false) w := by kernel_rfl
theorem isKeyLit (a : Int) (h : W64 a) : WideAt.IsKeyLit (.int .u64 a) := trivial
theorem MapB.look {W : World} {b n : Nat} {s : Int → Bool} (h : MapB W b n s) {a : Int} (ha : W64 a) : (Instr.lookup 114 (.map (some b)) (.int .u64 a) false).run Try.prog W = .ok (.bool (s a)) W := by
  obtain ⟨D, h1, h2⟩ := h
  obtain ⟨v, ps, hrun, hv⟩ := h1.lookup wordKeyed Try.underlying114 (zero4 W) (plainElem_bool Try.underlying4 false) (wordKey ha)
  obtain ⟨c, rfl, hc⟩ := plainElem_bool_inv Try.underlying4 hv
  rw [h2 a ha] at hc
  have hc1 : DataW.lit (H := Unit) (Lit.bool (s a)) = DataW.lit (Lit.bool c) := (Prod.mk.injEq .. ▸ hc).1
  have hc2 : s a = c := by
    have h5 := DataW.lit.inj hc1
    exact Lit.bool.inj h5
  rw [hrun, hc2]
theorem MapB.put {W : World} {b n : Nat} {s : Int → Bool} (h : MapB W b n s) {a : Int} (ha : W64 a) (hn : n < maxLen) (x : Bool) : ∃ W', (Instr.mapUpdate 114 (.map (some b)) (.int .u64 a) (.bool x)).run Try.prog W = .ok () W' ∧ MapB W' b (n + 1) (fun k => if k = a then x else s k) ∧ W.grownBy W' (some b) := by
  obtain ⟨D, h1, h2⟩ := h
  obtain ⟨W', hrun, h3, h4⟩ := h1.update wordKeyed Try.underlying114 hn (wordKey ha) (plainElem_bool Try.underlying4 x)
  refine ⟨W', hrun, ⟨_, h3, fun k hk => ?_⟩, h4⟩
  by_cases e : k = a
  · subst e
    show _ = DataW.lit (Lit.bool (if k = k then x else s k))
    rw [if_pos rfl, Maps.atKey_put_same h1.isMap (isKeyLit k hk)]
  · show _ = DataW.lit (Lit.bool (if k = a then x else s k))
    rw [if_neg e, Maps.atKey_put_other (by intro h5; injection h5 with _ h5; exact e h5)]
    exact h2 k hk
section
variable {ops : Array Oper} {rest : List Oper} {o : Oper} {a : Act} {Q : Exit → Act → World → Prop}
/-- seen[w], for the walk. -/
theorem wpList_look_bool (w : World) (hg : o.guard = none) (m x : Operand) (hop : o.op = Op.lookup 114 m x false) (b n : Nat) (s : Int → Bool) (k : Int) (hm : a.eval m = .map (some b)) (hx : a.eval x = .int .u64 k) (hk : W64 k) (h : MapB w b n s)
    (hK : wpList Try.prog ops Q rest (a.put o.dst (.bool (s k))) w) : wpList Try.prog ops Q (o :: rest) a w := by
  refine wpList_plain hg fun K' hK' => ?_
  unfold Oper.wp
  simp [execOp, hop, hm, hx, h.look hk, Result.andThen]
  exact hK' _ _ hK
/-- seen[w] = true, for the walk (a literal's entry, too). -/
theorem wpList_put_bool (w : World) (hg : o.guard = none) (m x v : Operand) (hop : o.op = Op.mapUpdate 114 m x v ∨ o.op = Op.insert 114 m x v) (b n : Nat) (s : Int → Bool) (k : Int) (t : Bool) (hm : a.eval m = .map (some b)) (hx : a.eval x = .int .u64 k) (hv : a.eval v = .bool t) (hk : W64 k) (hn : n < maxLen) (h : MapB w b n s)
    (hK : ∀ w', MapB w' b (n + 1) (fun j => if j = k then t else s j) → w.grownBy w' (some b) → wpList Try.prog ops Q rest (a.put o.dst undef) w') : wpList Try.prog ops Q (o :: rest) a w := by
  refine wpList_plain hg fun K' hK' => ?_
  obtain ⟨w', hrun, r1, r2⟩ := h.put hk hn t
  unfold Oper.wp
  rcases hop with hop | hop <;>
  · simp [execOp, hop, hm, hx, hv, hrun, Result.andThen]
    exact hK' _ _ (hK w' r1 r2)
end
end Go.Proofs.Ytiokegmpooildaa.Hp
