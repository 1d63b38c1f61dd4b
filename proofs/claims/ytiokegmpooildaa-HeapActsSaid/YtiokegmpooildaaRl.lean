/- A row of objects moved to new heads: the objects' own rows go with them. -/
import Derived.Test.YtiokegmpooildaaBs
namespace Go.Proofs.Ytiokegmpooildaa.Hp
open Go.RowKit Go.Proofs.YtiokegmpooildaaW.PrintWords Go.Proofs.YtiokegmpooildaaW.PrintLast Go.Proofs.YtiokegmpooildaaW.PrintMore Go.Proofs.Ytiokegmpooildaa.PAll
set_option linter.unusedVariables false
set_option linter.unusedSimpArgs false
/-- The heads of a row's objects, as they stand in memory. -/
def headsOf (W : World) (g : Nat) (l : List S53) : List (Int × Value × Value) :=
  (List.range l.length).map fun j => ((l.getD j z53).f0, (W.cell? ⟨g, j * 3 + 1, none⟩).getD undef, (W.cell? ⟨g, j * 3 + 2, none⟩).getD undef)
theorem headsOf_length (W : World) (g : Nat) (l : List S53) : (headsOf W g l).length = l.length := by
  unfold headsOf
  rw [List.length_map, List.length_range]
theorem headsOf_at (W : World) (g : Nat) (l : List S53) (j : Nat) (p : S53) (h : l[j]? = some p) : (headsOf W g l)[j]? = some (p.f0, (W.cell? ⟨g, j * 3 + 1, none⟩).getD undef, (W.cell? ⟨g, j * 3 + 2, none⟩).getD undef) := by
  have hj : j < l.length := (List.getElem?_eq_some_iff.1 h).1
  have e : l.getD j z53 = p := by rw [List.getD_eq_getElem?_getD, h]; rfl
  unfold headsOf
  rw [List.getElem?_map, List.getElem?_range hj]
  show some ((l.getD j z53).f0, _, _) = _
  rw [e]
theorem S_heads {W : World} {base g cap : Nat} {ok : Nat → Prop} {l : List S53} (h : Kd.S k53 53 W base ok (.slice (some ⟨g, 0, none⟩) l.length cap) l) :
    Kd.C kraw W (some ⟨g, 0, none⟩) l.length (headsOf W g l) ∧ ∃ f : Nat → Nat, ∀ j p, l[j]? = some p → ∃ r, (headsOf W g l)[j]? = some r ∧ k53.M W base (fun k => ok k ∧ f k = j) p [.int .u64 r.1, r.2.1, r.2.2] := by
  obtain ⟨f, hR⟩ := h
  obtain ⟨A, c, he, hl, hr⟩ := OwnRow.reads hR.2
  have hA : A = some ⟨g, 0, none⟩ := by injection he with h1 _ _; exact h1.symm
  subst hA
  have each : ∀ j p, l[j]? = some p → ∃ v1 v2 : Value, (∃ a n c, v1 = .slice a n c) ∧ (∃ a n c, v2 = .slice a n c) ∧ W.cell? ⟨g, j * 3, none⟩ = some (.int .u64 p.f0) ∧ W.cell? ⟨g, j * 3 + 1, none⟩ = some v1 ∧ W.cell? ⟨g, j * 3 + 2, none⟩ = some v2 ∧ k53.M W base (fun k => ok k ∧ f k = j) p [.int .u64 p.f0, v1, v2] := by
    intro j p hp
    have hj : j < l.length := (List.getElem?_eq_some_iff.1 hp).1
    obtain ⟨ad, e, hc⟩ := hr.2.2 (by rw [List.length_zipIdx]; omega)
    injection e with e
    subst e
    obtain ⟨cs, hlen, hM, hcell⟩ := hc j (p, j) (Kd.zip_at hp)
    have hM2 : k53.M W base (fun k => ok k ∧ f k = j) p cs := k53.M_mono (fun k hk => ⟨hk.1.1, hk.2⟩) hM
    obtain ⟨v1, v2, rfl, g1, g2⟩ := k53_openM hM2
    obtain ⟨a1, c1, e1⟩ := Kd.R_slice g1
    obtain ⟨a2, c2, e2⟩ := Kd.R_slice g2
    have c0 := hcell 0 _ rfl
    have c1' := hcell 1 _ rfl
    have c2' := hcell 2 _ rfl
    have hz : (Kd.tag f k53).sz = 3 := rfl
    rw [hz, add_at, Nat.zero_add] at c0 c1' c2'
    exact ⟨v1, v2, ⟨a1, _, c1, e1⟩, ⟨a2, _, c2, e2⟩, c0, c1', c2', hM2⟩
  refine ⟨⟨headsOf_length W g l, by have := hr.2.1; rw [List.length_zipIdx] at this; exact this, fun hp => ⟨⟨g, 0, none⟩, rfl, fun j r hj => ?_⟩⟩, f, fun j p hp => ?_⟩
  · have hjl : j < l.length := by have := (List.getElem?_eq_some_iff.1 hj).1; rw [headsOf_length] at this; exact this
    obtain ⟨v1, v2, ⟨a1, n1, c1, e1⟩, ⟨a2, n2, c2, e2⟩, k0, k1, k2, _⟩ := each j l[j] (List.getElem?_eq_getElem hjl)
    rw [headsOf_at W g l j l[j] (List.getElem?_eq_getElem hjl), k1, k2] at hj
    obtain rfl := Option.some.inj hj
    subst e1
    subst e2
    refine ⟨[.int .u64 l[j].f0, .slice a1 n1 c1, .slice a2 n2 c2], rfl, ⟨rfl, rfl, rfl⟩, fun i u hu => ?_⟩
    have hz : kraw.sz = 3 := rfl
    rw [hz, add_at, Nat.zero_add]
    match i, hu with
    | 0, hu => obtain rfl := Option.some.inj hu; exact k0
    | 1, hu => obtain rfl := Option.some.inj hu; exact k1
    | 2, hu => obtain rfl := Option.some.inj hu; exact k2
    | n + 3, hu => simp at hu
  · obtain ⟨v1, v2, _, _, k0, k1, k2, hM⟩ := each j p hp
    refine ⟨_, headsOf_at W g l j p hp, ?_⟩
    rw [k1, k2]
    exact hM
/-- The same objects and one more behind new heads. -/
theorem S_of_heads {W : World} {base : Nat} {ok okO okp : Nat → Prop} {l : List S53} {x : S53} {raws : List (Int × Value × Value)} {v1 v2 v : Value} {f : Nat → Nat} (hl : raws.length = l.length)
    (hM : ∀ j p, l[j]? = some p → ∃ r, raws[j]? = some r ∧ k53.M W base (fun k => okO k ∧ f k = j) p [.int .u64 r.1, r.2.1, r.2.2]) (hx : k53.M W base okp x [.int .u64 x.f0, v1, v2]) (hap : ∀ k, okp k → ¬ okO k)
    (hR : Kd.R kraw 53 W base ok v (raws ++ [(x.f0, v1, v2)])) (hO : ∀ k, okO k → ok k ∧ some k ≠ v.ownBlock) (hP : ∀ k, okp k → ok k ∧ some k ≠ v.ownBlock) : Kd.S k53 53 W base ok v (l ++ [x]) := by
  obtain ⟨h0, inner, hown, hrep⟩ := hR
  have hlen : (raws ++ [(x.f0, v1, v2)]).length = (l ++ [x]).length := by rw [List.length_append, List.length_append, hl]; rfl
  obtain ⟨f', hf⟩ := Kd.reps_tag (d := k53) (w := W) (base := base) (ok := fun k => ok k ∧ some k ≠ v.ownBlock) (xs := l ++ [x]) (inner := inner) (fun j k => (j < l.length ∧ okO k ∧ f k = j) ∨ (j = l.length ∧ okp k))
    (fun i j k h1 h2 => by
      rcases h1 with ⟨_, a1, a2⟩ | ⟨a1, a2⟩
      · rcases h2 with ⟨_, b1, b2⟩ | ⟨b1, b2⟩
        · omega
        · exact absurd a1 (hap k b2)
      · rcases h2 with ⟨_, b1, b2⟩ | ⟨b1, b2⟩
        · exact absurd b1 (hap k a2)
        · omega)
    (fun j k h => by
      rcases h with ⟨_, a1, _⟩ | ⟨_, a2⟩
      · exact hO k a1
      · exact hP k a2)
    (by rw [hrep.1, hlen]; rfl)
    (fun j y hj => by
      rcases Nat.lt_or_ge j l.length with hlt | hge
      · rw [List.getElem?_append_left hlt] at hj
        obtain ⟨r, hr, hm⟩ := hM j y hj
        have h2 := hrep.2 j r (by rw [List.getElem?_append_left (by rw [hl]; exact hlt)]; exact hr)
        have h3 : (inner.drop (j * k53.sz)).take k53.sz = [.int .u64 r.1, r.2.1, r.2.2] := h2.1
        rw [h3]
        exact k53.M_mono (fun k hk => Or.inl ⟨hlt, hk.1, hk.2⟩) hm
      · rw [List.getElem?_append_right hge] at hj
        have hj0 : j - l.length = 0 := by
          have := (List.getElem?_eq_some_iff.1 hj).1
          simp at this
          omega
        rw [hj0] at hj
        obtain rfl := Option.some.inj hj
        have h2 := hrep.2 j (x.f0, v1, v2) (by rw [List.getElem?_append_right (by rw [hl]; exact hge), hl, hj0]; rfl)
        have h3 : (inner.drop (j * k53.sz)).take k53.sz = [.int .u64 x.f0, v1, v2] := h2.1
        rw [h3]
        exact k53.M_mono (fun k hk => Or.inr ⟨by omega, hk⟩) hx)
  refine ⟨f', h0, inner, ?_, hf⟩
  rw [List.length_zipIdx, ← hlen]
  exact hown
end Go.Proofs.Ytiokegmpooildaa.Hp
