/- Maps from words to words: what is looked up, what is stored, key by key. -/
import Derived.Test.YtiokegmpooildaaMp
namespace Go.Proofs.Ytiokegmpooildaa.Hp
open Go.RowKit Go.Proofs.YtiokegmpooildaaW.PrintWords Go.Proofs.YtiokegmpooildaaW.PrintLast Go.Proofs.YtiokegmpooildaaW.PrintMore Go.Proofs.Ytiokegmpooildaa.PAll
open Go.Maps (Keyed int_keyed keyOf_int_mk)
set_option linter.unusedVariables false
set_option linter.unusedSimpArgs false
/-- A map of words: what each word leads to. -/
def MapW (W : World) (b n : Nat) (m : Int → Option Int) : Prop :=
  ∃ D : DataW Unit, W.ownsMap Try.prog 36 (plainElem Try.prog 36) b n D ∧ ∀ a, W64 a → Maps.has D (.int .u64 a) = (m a).isSome ∧ D.atKey (.int .u64 a) (.lit (.int .u64 0)) = .lit (.int .u64 ((m a).getD 0))
theorem MapW.kept {W W' : World} {b n : Nat} {m : Int → Option Int} {row : Option Nat} (h : MapW W b n m) (hg : W.grownBy W' row) (hne : some b ≠ row) : MapW W' b n m := by
  obtain ⟨D, h1, h2⟩ := h
  exact ⟨D, h1.kept hg hne, h2⟩
theorem MapW.lt {W : World} {b n : Nat} {m : Int → Option Int} (h : MapW W b n m) : b < W.heap.size := by
  obtain ⟨D, h1, _⟩ := h
  exact h1.lt
theorem MapW.below {W W' : World} {b n : Nat} {m : Int → Option Int} (h : MapW W b n m) (hb : Below W.heap.size W W') : MapW W' b n m := h.kept (grown_of_below hb none) (by simp)
theorem MapW.made (W : World) : MapW (W.alloc (.map #[] 0)) W.heap.size 0 (fun _ => none) := ⟨.map [], World.ownsMap_made _ _ _ _, fun a _ => ⟨rfl, rfl⟩⟩
theorem zero36 (w : World) : (zeroValue 36).run Try.prog w = .ok (.int .u64 0) w := by kernel_rfl
theorem MapW.look {W : World} {b n : Nat} {m : Int → Option Int} (h : MapW W b n m) {a : Int} (ha : W64 a) : (Instr.lookup 72 (.map (some b)) (.int .u64 a) true).run Try.prog W = .ok (.tuple #[.int .u64 ((m a).getD 0), .bool (m a).isSome]) W := by
  obtain ⟨D, h1, h2⟩ := h
  obtain ⟨v, ps, hrun, hv⟩ := h1.look_ok wordKeyed Try.underlying72 (zero36 W) (plainElem_int Try.underlying36 (by rfl)) (wordKey ha)
  obtain ⟨c, rfl, hc, _⟩ := plainElem_int_inv Try.underlying36 hv
  obtain ⟨h3, h4⟩ := h2 a ha
  rw [h4] at hc
  have hc1 : DataW.lit (H := Unit) (Lit.int .u64 ((m a).getD 0)) = DataW.lit (Lit.int .u64 c) := (Prod.mk.injEq .. ▸ hc).1
  have hc2 : (m a).getD 0 = c := by
    have h5 := DataW.lit.inj hc1
    exact (Lit.int.inj h5).2
  rw [hrun, h3, hc2]
theorem MapW.put {W : World} {b n : Nat} {m : Int → Option Int} (h : MapW W b n m) {a v : Int} (ha : W64 a) (hv : W64 v) (hn : n < maxLen) : ∃ W', (Instr.mapUpdate 72 (.map (some b)) (.int .u64 a) (.int .u64 v)).run Try.prog W = .ok () W' ∧ MapW W' b (n + 1) (fun k => if k = a then some v else m k) ∧ W.grownBy W' (some b) := by
  obtain ⟨D, h1, h2⟩ := h
  obtain ⟨W', hrun, h3, h4⟩ := h1.update wordKeyed Try.underlying72 hn (wordKey ha) (plainElem_int Try.underlying36 (wf_u64 hv))
  refine ⟨W', hrun, ⟨_, h3, fun k hk => ?_⟩, h4⟩
  by_cases e : k = a
  · subst e
    simp only [if_true]
    exact ⟨Maps.has_put_same h1.isMap (isKeyLit k hk) _, by rw [Maps.atKey_put_same h1.isMap (isKeyLit k hk)]; rfl⟩
  · simp only [if_neg e]
    have hne : Lit.int .u64 k ≠ Lit.int .u64 a := by intro h5; exact e (Lit.int.inj h5).2
    rw [Maps.has_put_other hne, Maps.atKey_put_other hne]
    exact h2 k hk
section
variable {ops : Array Oper} {rest : List Oper} {o : Oper} {a : Act} {Q : Exit → Act → World → Prop}
theorem mapmadeW_event {W : World} (hgd : o.guard = none) (ho : o.op = .makeMap 72 none)
    (h : ∀ b w1, b = W.heap.size → MapW w1 b 0 (fun _ => none) → Below W.heap.size W w1 → wpList Try.prog ops Q rest (a.put o.dst (.map (some b))) w1) : wpList Try.prog ops Q (o :: rest) a W := by
  refine Kd.event_run hgd (w1 := W.alloc (.map #[] 0)) (v := .map (some W.heap.size)) ?_ (h _ _ rfl (MapW.made W) (below_alloc (Below.refl _ _) _))
  unfold execOp
  simp only [ho, Option.map_none, run_makeMap, Sem.run_bind, Sem.run_pure, Result.andThen_ok]
theorem wpList_look_w (w : World) (hg : o.guard = none) (mo x : Operand) (hop : o.op = Op.lookup 72 mo x true) (b n : Nat) (m : Int → Option Int) (k : Int) (hm : a.eval mo = .map (some b)) (hx : a.eval x = .int .u64 k) (hk : W64 k) (h : MapW w b n m)
    (hK : wpList Try.prog ops Q rest (a.put o.dst (.tuple #[.int .u64 ((m k).getD 0), .bool (m k).isSome])) w) : wpList Try.prog ops Q (o :: rest) a w := by
  refine wpList_plain hg fun K' hK' => ?_
  unfold Oper.wp
  simp only [execOp, hop, hm, hx, h.look hk, Sem.run_bind, Sem.run_pure, Result.andThen_ok]
  exact hK' _ _ hK
theorem wpList_put_w (w : World) (hg : o.guard = none) (mo x v : Operand) (hop : o.op = Op.mapUpdate 72 mo x v) (b n : Nat) (m : Int → Option Int) (k t : Int) (hm : a.eval mo = .map (some b)) (hx : a.eval x = .int .u64 k) (hv : a.eval v = .int .u64 t) (hk : W64 k) (ht : W64 t) (hn : n < maxLen) (h : MapW w b n m)
    (hK : ∀ w', MapW w' b (n + 1) (fun j => if j = k then some t else m j) → w.grownBy w' (some b) → wpList Try.prog ops Q rest (a.put o.dst undef) w') : wpList Try.prog ops Q (o :: rest) a w := by
  refine wpList_plain hg fun K' hK' => ?_
  obtain ⟨w', hrun, r1, r2⟩ := h.put hk ht hn
  unfold Oper.wp
  simp [execOp, hop, hm, hx, hv, hrun, Result.andThen]
  exact hK' _ _ (hK w' r1 r2)
end
end Go.Proofs.Ytiokegmpooildaa.Hp
