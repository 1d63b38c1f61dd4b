/- Maps from words to words of which the number of entries is known. -/
import Derived.Test.YtiokegmpooildaaMw
namespace Go.Proofs.Ytiokegmpooildaa.Hp
open Go.RowKit Go.Proofs.YtiokegmpooildaaW.PrintWords Go.Proofs.YtiokegmpooildaaW.PrintLast Go.Proofs.YtiokegmpooildaaW.PrintMore Go.Proofs.Ytiokegmpooildaa.PAll
open Go.Maps (Keyed int_keyed keyOf_int_mk)
set_option linter.unusedVariables false
set_option linter.unusedSimpArgs false
/-- A map of words with n entries: what each word leads to. -/
def MapZ (W : World) (b n : Nat) (m : Int → Option Int) : Prop :=
  ∃ D : DataW Unit, W.ownsMap Try.prog 36 (plainElem Try.prog 36) b n D ∧ Maps.size D = n ∧ ∀ a, W64 a → Maps.has D (.int .u64 a) = (m a).isSome ∧ D.atKey (.int .u64 a) (.lit (.int .u64 0)) = .lit (.int .u64 ((m a).getD 0))
theorem MapZ.toW {W : World} {b n : Nat} {m : Int → Option Int} (h : MapZ W b n m) : MapW W b n m := by
  obtain ⟨D, h1, _, h2⟩ := h
  exact ⟨D, h1, h2⟩
theorem MapZ.kept {W W' : World} {b n : Nat} {m : Int → Option Int} {row : Option Nat} (h : MapZ W b n m) (hg : W.grownBy W' row) (hne : some b ≠ row) : MapZ W' b n m := by
  obtain ⟨D, h1, h2⟩ := h
  exact ⟨D, h1.kept hg hne, h2⟩
theorem MapZ.lt {W : World} {b n : Nat} {m : Int → Option Int} (h : MapZ W b n m) : b < W.heap.size := h.toW.lt
theorem MapZ.below {W W' : World} {b n : Nat} {m : Int → Option Int} (h : MapZ W b n m) (hb : Below W.heap.size W W') : MapZ W' b n m := h.kept (grown_of_below hb none) (by simp)
theorem MapZ.made (W : World) : MapZ (W.alloc (.map #[] 0)) W.heap.size 0 (fun _ => none) := ⟨.map [], World.ownsMap_made _ _ _ _, rfl, fun a _ => ⟨rfl, rfl⟩⟩
theorem MapZ.put {W : World} {b n : Nat} {m : Int → Option Int} (h : MapZ W b n m) {a v : Int} (ha : W64 a) (hv : W64 v) (hn : n < maxLen) (hno : m a = none) : ∃ W', (Instr.mapUpdate 72 (.map (some b)) (.int .u64 a) (.int .u64 v)).run Try.prog W = .ok () W' ∧ MapZ W' b (n + 1) (fun k => if k = a then some v else m k) ∧ W.grownBy W' (some b) := by
  obtain ⟨D, h1, hz, h2⟩ := h
  obtain ⟨W', hrun, h3, h4⟩ := h1.update wordKeyed Try.underlying72 hn (wordKey ha) (plainElem_int Try.underlying36 (wf_u64 hv))
  refine ⟨W', hrun, ⟨_, h3, ?_, fun k hk => ?_⟩, h4⟩
  · have h5 := (h2 a ha).1
    rw [hno] at h5
    rw [Maps.size_put (h1.tidy wordKeyed), h5, hz]
    rfl
  by_cases e : k = a
  · subst e
    simp only [if_true]
    exact ⟨Maps.has_put_same h1.isMap (isKeyLit k hk) _, by rw [Maps.atKey_put_same h1.isMap (isKeyLit k hk)]; rfl⟩
  · simp only [if_neg e]
    have hne : Lit.int .u64 k ≠ Lit.int .u64 a := by intro h5; exact e (Lit.int.inj h5).2
    rw [Maps.has_put_other hne, Maps.atKey_put_other hne]
    exact h2 k hk
section
variable {ops : Array Oper} {rest : List Oper} {o : Oper} {a : Act} {Q : Exit → Act → World → Prop}
theorem mapmadeZ_event {W : World} (hgd : o.guard = none) (ho : o.op = .makeMap 72 none)
    (h : ∀ b w1, b = W.heap.size → MapZ w1 b 0 (fun _ => none) → Below W.heap.size W w1 → wpList Try.prog ops Q rest (a.put o.dst (.map (some b))) w1) : wpList Try.prog ops Q (o :: rest) a W := by
  refine Kd.event_run hgd (w1 := W.alloc (.map #[] 0)) (v := .map (some W.heap.size)) ?_ (h _ _ rfl (MapZ.made W) (below_alloc (Below.refl _ _) _))
  unfold execOp
  simp only [ho, Option.map_none, run_makeMap, Sem.run_bind, Sem.run_pure, Result.andThen_ok]
theorem wpList_put_z (w : World) (hg : o.guard = none) (mo x v : Operand) (hop : o.op = Op.mapUpdate 72 mo x v) (b n : Nat) (m : Int → Option Int) (k t : Int) (hm : a.eval mo = .map (some b)) (hx : a.eval x = .int .u64 k) (hv : a.eval v = .int .u64 t) (hk : W64 k) (ht : W64 t) (hn : n < maxLen) (h : MapZ w b n m) (hno : m k = none)
    (hK : ∀ w', MapZ w' b (n + 1) (fun j => if j = k then some t else m j) → w.grownBy w' (some b) → wpList Try.prog ops Q rest (a.put o.dst undef) w') : wpList Try.prog ops Q (o :: rest) a w := by
  refine wpList_plain hg fun K' hK' => ?_
  obtain ⟨w', hrun, r1, r2⟩ := h.put hk ht hn hno
  unfold Oper.wp
  simp [execOp, hop, hm, hx, hv, hrun, Result.andThen]
  exact hK' _ _ (hK w' r1 r2)
theorem wpList_len_z (w : World) (hg : o.guard = none) (mo : Operand) (hop : o.op = Op.call { callee := Callee.builtin Builtin.len, args := #[mo], argTypes := #[72] }) (b n : Nat) (m : Int → Option Int) (hm : a.eval mo = .map (some b)) (h : MapZ w b n m)
    (hK : wpList Try.prog ops Q rest (a.put o.dst (.int .i64 (n : Int))) w) : wpList Try.prog ops Q (o :: rest) a w := by
  obtain ⟨D, h1, hz, _⟩ := h
  refine wpList_plain hg fun K' hK' => ?_
  unfold Oper.wp
  have hl := h1.len Try.underlying72 o.type
  rw [hz] at hl
  simp [execOp, hop, resolve, invoke, builtin, hm, hl, Result.andThen]
  exact hK' _ _ hK
end
end Go.Proofs.Ytiokegmpooildaa.Hp
