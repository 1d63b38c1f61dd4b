/- Two heaps side by side: the program's and the reference's. -/
import Derived.Test.YtiokegmpooildaaRm
import Derived.Test.YtiokegmpooildaaSf
namespace Go.Proofs.Ytiokegmpooildaa.Hp
open Go.RowKit Go.Proofs.YtiokegmpooildaaW.PrintWords Go.Proofs.YtiokegmpooildaaW.PrintLast Go.Proofs.YtiokegmpooildaaW.PrintMore Go.Proofs.Ytiokegmpooildaa.PAll
set_option linter.unusedVariables false
set_option linter.unusedSimpArgs false
theorem HeapO.step {W W' : World} {g B : Nat} {ok : Nat → Prop} {l : List S53} {o wd u : Int} (h : HeapO W g B ok l o wd u) (hm : ∀ k, ok k → k < W.heap.size → W'.heap[k]? = W.heap[k]?) : HeapO W' g B ok l o wd u := by
  obtain ⟨v, h1, h2, h3, h4⟩ := h
  exact ⟨v, (hm g h3 (blk_lt h1)).trans h1, h2, h3, Kd.S_step h4 hm⟩
theorem RefO.step {W W' : World} {g B : Nat} {ok : Nat → Prop} {l : List S53} {o wd : Int} (h : RefO W g B ok l o wd) (hm : ∀ k, ok k → k < W.heap.size → W'.heap[k]? = W.heap[k]?) : RefO W' g B ok l o wd := by
  obtain ⟨v, h1, h2, h3, h4⟩ := h
  exact ⟨v, (hm g h3 (blk_lt h1)).trans h1, h2, h3, Kd.S_step h4 hm⟩
theorem HeapO.mono {W : World} {g B : Nat} {ok ok' : Nat → Prop} {l : List S53} {o wd u : Int} (h : HeapO W g B ok l o wd u) (hm : ∀ k, ok k → ok' k) : HeapO W g B ok' l o wd u := by
  obtain ⟨v, h1, h2, h3, h4⟩ := h
  exact ⟨v, h1, h2, hm g h3, Kd.S_mono h4 hm⟩
theorem RefO.mono {W : World} {g B : Nat} {ok ok' : Nat → Prop} {l : List S53} {o wd : Int} (h : RefO W g B ok l o wd) (hm : ∀ k, ok k → ok' k) : RefO W g B ok' l o wd := by
  obtain ⟨v, h1, h2, h3, h4⟩ := h
  exact ⟨v, h1, h2, hm g h3, Kd.S_mono h4 hm⟩
theorem HeapO.low {W : World} {g B B' : Nat} {ok : Nat → Prop} {l : List S53} {o wd u : Int} (h : HeapO W g B ok l o wd u) (hm : B' ≤ B) : HeapO W g B' ok l o wd u := by
  obtain ⟨v, h1, h2, h3, h4⟩ := h
  exact ⟨v, h1, Nat.le_trans hm h2, h3, Kd.S_lower h4 hm⟩
theorem RefO.low {W : World} {g B B' : Nat} {ok : Nat → Prop} {l : List S53} {o wd : Int} (h : RefO W g B ok l o wd) (hm : B' ≤ B) : RefO W g B' ok l o wd := by
  obtain ⟨v, h1, h2, h3, h4⟩ := h
  exact ⟨v, h1, Nat.le_trans hm h2, h3, Kd.S_lower h4 hm⟩
theorem HeapO.bound {W : World} {g B : Nat} {ok : Nat → Prop} {l : List S53} {o wd u : Int} (h : HeapO W g B ok l o wd u) : HeapO W g B (fun k => ok k ∧ B ≤ k ∧ k < W.heap.size) l o wd u := by
  obtain ⟨v, h1, h2, h3, h4⟩ := h
  exact ⟨v, h1, h2, ⟨h3, h2, blk_lt h1⟩, Kd.S_mono (Kd.S_bound h4) (fun k hk => ⟨hk.1, hk.2.1, hk.2.2.1⟩)⟩
theorem RefO.bound {W : World} {g B : Nat} {ok : Nat → Prop} {l : List S53} {o wd : Int} (h : RefO W g B ok l o wd) : RefO W g B (fun k => ok k ∧ B ≤ k ∧ k < W.heap.size) l o wd := by
  obtain ⟨v, h1, h2, h3, h4⟩ := h
  exact ⟨v, h1, h2, ⟨h3, h2, blk_lt h1⟩, Kd.S_mono (Kd.S_bound h4) (fun k hk => ⟨hk.1, hk.2.1, hk.2.2.1⟩)⟩
/-- The two heaps, their blocks apart, and apart from the blocks X. -/
def Two (w W : World) (X : Nat → Prop) (g gr : Nat) (l lr : List S53) (wd u : Int) : Prop :=
  ∃ okH okR : Nat → Prop, HeapO W g w.heap.size okH l 30 wd u ∧ RefO W gr w.heap.size okR lr 30 wd ∧ (∀ k, okH k → ¬ okR k) ∧
    (∀ k, okH k → w.heap.size ≤ k ∧ k < W.heap.size ∧ ¬ X k) ∧ (∀ k, okR k → w.heap.size ≤ k ∧ k < W.heap.size ∧ ¬ X k) ∧ (∀ k, X k → k < W.heap.size) ∧ Below w.heap.size w W
def KeptX (X : Nat → Prop) (W W' : World) : Prop := ∀ k, X k → k < W.heap.size → W'.heap[k]? = W.heap[k]?
theorem Two.heap {w W : World} {X : Nat → Prop} {g gr : Nat} {l lr : List S53} {wd u : Int} (h : Two w W X g gr l lr wd u) : HeapC W g l 30 wd u := by
  obtain ⟨_, _, h, _⟩ := h
  exact h.reads
theorem Two.ref {w W : World} {X : Nat → Prop} {g gr : Nat} {l lr : List S53} {wd u : Int} (h : Two w W X g gr l lr wd u) : RefC W gr lr 30 wd := by
  obtain ⟨_, _, _, h, _⟩ := h
  exact h.reads
theorem Two.back {w W : World} {X : Nat → Prop} {g gr : Nat} {l lr : List S53} {wd u : Int} (h : Two w W X g gr l lr wd u) : Below w.heap.size w W := by
  obtain ⟨_, _, _, _, _, _, _, _, h⟩ := h
  exact h
theorem Two.below {w W W' : World} {X : Nat → Prop} {g gr : Nat} {l lr : List S53} {wd u : Int} (h : Two w W X g gr l lr wd u) (hb : Below W.heap.size W W') : Two w W' X g gr l lr wd u := by
  obtain ⟨okH, okR, h1, h2, h3, h4, h5, h6, h7⟩ := h
  refine ⟨okH, okR, h1.below hb, h2.below hb, h3, fun k hk => ?_, fun k hk => ?_, fun k hk => Nat.lt_of_lt_of_le (h6 k hk) hb.size, below_step h7 hb⟩
  · have q := h4 k hk; have := hb.size; exact ⟨q.1, by omega, q.2.2⟩
  · have q := h5 k hk; have := hb.size; exact ⟨q.1, by omega, q.2.2⟩
theorem Two.mark {w W W' : World} {X X' : Nat → Prop} {g gr : Nat} {l lr : List S53} {wd u : Int} (h : Two w W X g gr l lr wd u) (hb : Below W.heap.size W W') (hx : ∀ k, X' k → W.heap.size ≤ k ∧ k < W'.heap.size) : Two w W' X' g gr l lr wd u := by
  obtain ⟨okH, okR, h1, h2, h3, h4, h5, h6, h7⟩ := h
  refine ⟨okH, okR, h1.below hb, h2.below hb, h3, fun k hk => ?_, fun k hk => ?_, fun k hk => (hx k hk).2, below_step h7 hb⟩
  · have q := h4 k hk; have := hb.size; exact ⟨q.1, by omega, fun h => by have := hx k h; omega⟩
  · have q := h5 k hk; have := hb.size; exact ⟨q.1, by omega, fun h => by have := hx k h; omega⟩
theorem Two.start {w w0 w1 w2 w3 : World} {g gr : Nat} {l lr : List S53} {wd u : Int} (h0 : w.heap.size ≤ w0.heap.size) (hO : HeapO w1 g w0.heap.size (fun k => w0.heap.size ≤ k) l 30 wd u) (hb1 : Below w.heap.size w w1) (hb2 : Below w1.heap.size w1 w2)
    (hR : RefO w3 gr w2.heap.size (fun k => w2.heap.size ≤ k) lr 30 wd) (hb3 : Below w2.heap.size w2 w3) : Two w w3 (fun _ => False) g gr l lr wd u := by
  refine ⟨_, _, ((hO.bound.below hb2).below hb3).low h0, (hR.bound).low (by have := hb1.size; have := hb2.size; omega), fun k h1 h2 => ?_, fun k h1 => ?_, fun k h1 => ?_, fun _ h => h.elim, below_step (below_step hb1 hb2) hb3⟩
  · have := hb2.size; have := h1.2.2; have := h2.1; omega
  · have := hb2.size; have := hb3.size; have := h1.2.2; have := h1.1; exact ⟨by omega, by omega, fun h => h⟩
  · have := hb2.size; have := hb1.size; have := h1.2.2; have := h1.1; exact ⟨by omega, by omega, fun h => h⟩
theorem Two.actH {n : Nat} {args : Array Value} {E : Ending} {w W : World} {X : Nat → Prop} {g gr : Nat} {l lr l' : List S53} {wd u u' : Int} (h : Two w W X g gr l lr wd u)
    (c : ∀ ok : Nat → Prop, (∀ k, W.heap.size ≤ k → ok k) → HeapO W g w.heap.size ok l 30 wd u → Calls Try.prog n args W fun e w' => e = E ∧ HeapO w' g w.heap.size ok l' 30 wd u' ∧ Frm ok W w') :
    Calls Try.prog n args W fun e w' => e = E ∧ Two w w' X g gr l' lr wd u' ∧ KeptX X W w' := by
  obtain ⟨okH, okR, h1, h2, h3, h4, h5, h6, h7⟩ := h
  refine (c (fun k => okH k ∨ W.heap.size ≤ k) (fun k hk => Or.inr hk) (h1.mono (fun k hk => Or.inl hk))).mono ?_
  rintro e w' ⟨he, hO, hF⟩
  have hsz := h7.size
  refine ⟨he, ⟨_, okR, hO.bound, h2.step (fun k hk hlt => hF.2 k hlt (fun hn => ?_)), fun k hk hr => ?_, fun k hk => ⟨hk.2.1, hk.2.2, fun hx => ?_⟩, fun k hk => ?_, fun k hk => Nat.lt_of_lt_of_le (h6 k hk) hF.1.size, h7.trans (hF.below hsz (fun k hk => ?_))⟩, fun k hk hlt => hF.2 k hlt (fun hn => ?_)⟩
  · rcases hn with hn | hn
    · exact h3 k hn hk
    · omega
  · rcases hk.1 with hn | hn
    · exact h3 k hn hr
    · have := h5 k hr; omega
  · rcases hk.1 with hn | hn
    · exact (h4 k hn).2.2 hx
    · have := h6 k hx; omega
  · have q := h5 k hk; have := hF.1.size; exact ⟨q.1, by omega, q.2.2⟩
  · rcases hk with hn | hn
    · exact (h4 k hn).1
    · omega
  · rcases hn with hn | hn
    · exact (h4 k hn).2.2 hk
    · omega
theorem Two.actR {n : Nat} {args : Array Value} {E : Ending} {w W : World} {X : Nat → Prop} {g gr : Nat} {l lr lr' : List S53} {wd u : Int} (h : Two w W X g gr l lr wd u)
    (c : ∀ ok : Nat → Prop, (∀ k, W.heap.size ≤ k → ok k) → RefO W gr w.heap.size ok lr 30 wd → Calls Try.prog n args W fun e w' => e = E ∧ RefO w' gr w.heap.size ok lr' 30 wd ∧ Frm ok W w') :
    Calls Try.prog n args W fun e w' => e = E ∧ Two w w' X g gr l lr' wd u ∧ KeptX X W w' := by
  obtain ⟨okH, okR, h1, h2, h3, h4, h5, h6, h7⟩ := h
  refine (c (fun k => okR k ∨ W.heap.size ≤ k) (fun k hk => Or.inr hk) (h2.mono (fun k hk => Or.inl hk))).mono ?_
  rintro e w' ⟨he, hO, hF⟩
  have hsz := h7.size
  refine ⟨he, ⟨okH, _, h1.step (fun k hk hlt => hF.2 k hlt (fun hn => ?_)), hO.bound, fun k hk hr => ?_, fun k hk => ?_, fun k hk => ⟨hk.2.1, hk.2.2, fun hx => ?_⟩, fun k hk => Nat.lt_of_lt_of_le (h6 k hk) hF.1.size, h7.trans (hF.below hsz (fun k hk => ?_))⟩, fun k hk hlt => hF.2 k hlt (fun hn => ?_)⟩
  · rcases hn with hn | hn
    · exact h3 k hk hn
    · omega
  · rcases hr.1 with hn | hn
    · exact h3 k hk hn
    · have := h4 k hk; omega
  · have q := h4 k hk; have := hF.1.size; exact ⟨q.1, by omega, q.2.2⟩
  · rcases hk.1 with hn | hn
    · exact (h5 k hn).2.2 hx
    · have := h6 k hx; omega
  · rcases hk with hn | hn
    · exact (h5 k hn).1
    · omega
  · rcases hn with hn | hn
    · exact (h5 k hn).2.2 hk
    · omega
theorem KeptX.cell {X : Nat → Prop} {W W' : World} (h : KeptX X W W') {k : Nat} (hx : X k) {cs : Array Value} {t : Nat} (hb : W.heap[k]? = some (.cells cs t (0, 0))) : W'.heap[k]? = some (.cells cs t (0, 0)) := (h k hx (blk_lt hb)).trans hb
end Go.Proofs.Ytiokegmpooildaa.Hp
