/- Objects that share their rows: a row of heads; what collect.Run keeps. -/
import Derived.Test.YtiokegmpooildaaBs
import Derived.Test.YtiokegmpooildaaMo
namespace Go.Proofs.Ytiokegmpooildaa.Hp
open Go.RowKit Go.Proofs.YtiokegmpooildaaW.PrintWords Go.Proofs.YtiokegmpooildaaW.PrintLast Go.Proofs.YtiokegmpooildaaW.PrintMore Go.Proofs.Ytiokegmpooildaa.PAll
set_option linter.unusedVariables false
set_option linter.unusedSimpArgs false
/-- An object's three cells, as they stand. -/
def kraw : Kd (Int × Value × Value) where
  sz := 3
  E := []
  K := fun _ x cs => cs = [.int .u64 x.1, x.2.1, x.2.2] ∧ x.2.1.oneCell' = true ∧ x.2.2.oneCell' = true
  M := fun _ _ _ x cs => cs = [.int .u64 x.1, x.2.1, x.2.2] ∧ x.2.1.oneCell' = true ∧ x.2.2.oneCell' = true
  K_len := by rintro w x cs ⟨rfl, _⟩; rfl
  K_one := by
    rintro w x cs ⟨rfl, h1, h2⟩ u hu
    rcases List.mem_cons.1 hu with rfl | hu
    · rfl
    · rcases List.mem_cons.1 hu with rfl | hu
      · exact h1
      · obtain rfl := List.mem_singleton.1 hu
        exact h2
  K_below := fun _ h => h
  K_of_M := fun h => h
  M_mono := fun _ h => h
  M_bound := fun h => h
  M_move := fun _ h => h
  M_lower := fun _ h => h
/-- An object, its slots turned. -/
def turnF (m : Int → Option Int) (x : S53) : S53 := ⟨x.f0, x.f1.map (turn1 m), x.f2⟩
/-- Objects, those of some numbers with their slots turned. -/
def slotsL (m : Int → Option Int) (l : List S53) (ks : List Int) : List S53 := ks.foldl (fun xs i => xs.set i.toNat (turnF m (rd_T53 l i))) l
theorem slotsL_snoc (m : Int → Option Int) (l : List S53) (ks : List Int) (i : Int) : slotsL m l (ks ++ [i]) = (slotsL m l ks).set i.toNat (turnF m (rd_T53 l i)) := by
  unfold slotsL
  rw [List.foldl_append]
  rfl
theorem take_snoc (ns : List Int) (x : Int) (h0 : 0 ≤ x) (h1 : x < (ns.length : Int)) : ns.take (x + 1).toNat = ns.take x.toNat ++ [rd ns x] := by
  have e : (x + 1).toNat = x.toNat + 1 := by omega
  have e2 : rd ns x = ns[x.toNat] := by
    unfold rd
    rw [List.getD_eq_getElem?_getD, List.getElem?_eq_getElem (by omega)]
    rfl
  rw [e, List.take_succ_eq_append_getElem (by omega), e2]
theorem slotsL_all (m : Int → Option Int) (l : List S53) : ∀ (n : Nat) (ks : List Int), ks.length ≤ n → (∀ a ∈ ks, 0 ≤ a ∧ a < (l.length : Int)) → (slotsL m l ks).length = l.length ∧ ∀ i : Int, 0 ≤ i → i < (l.length : Int) → rd_T53 (slotsL m l ks) i = if i ∈ ks then turnF m (rd_T53 l i) else rd_T53 l i
  | 0, ks, hn, h => by
    obtain rfl := List.length_eq_zero_iff.1 (Nat.le_zero.1 hn)
    exact ⟨rfl, fun i _ _ => by simp [slotsL]⟩
  | n + 1, ks, hn, h => by
    rcases List.eq_nil_or_concat ks with rfl | ⟨r, a, rfl⟩
    · exact ⟨rfl, fun i _ _ => by simp [slotsL]⟩
    · rw [List.concat_eq_append] at *
      rw [List.length_append] at hn
      have ih := slotsL_all m l n r (by simpa using hn) (fun b hb => h b (by simp [hb]))
      have ha := h a (by simp)
      rw [slotsL_snoc]
      refine ⟨by rw [List.length_set]; exact ih.1, fun i h0 h1 => ?_⟩
      by_cases e : i = a
      · subst e
        rw [if_pos (by simp)]
        unfold rd_T53
        rw [List.getD_eq_getElem?_getD, List.getElem?_set_self (by rw [ih.1]; omega)]
        rfl
      · have e2 : rd_T53 ((slotsL m l r).set a.toNat (turnF m (rd_T53 l a))) i = rd_T53 (slotsL m l r) i := by
          unfold rd_T53
          rw [List.getD_eq_getElem?_getD, List.getElem?_set_ne (by omega), ← List.getD_eq_getElem?_getD]
        rw [e2, ih.2 i h0 h1]
        have e3 : (i ∈ r ++ [a]) = (i ∈ r) := by simp [e]
        simp only [e3]
/-- What is kept. -/
def keptL (m : Int → Option Int) (l : List S53) (ns : List Int) : List S53 := ns.map fun i => turnO m (rd_T53 l i)
theorem C_heads {w : World} {A : Option Addr} {ns : List Int} (raw : Int → Int × Value × Value) (f : Int → S53) (h : Kd.C kraw w A ns.length (ns.map raw)) (hk : ∀ i ∈ ns, k53.K w (f i) [.int .u64 (raw i).1, (raw i).2.1, (raw i).2.2]) : Kd.C k53 w A ns.length (ns.map f) := by
  obtain ⟨h1, h2, h3⟩ := h
  refine ⟨by rw [List.length_map], h2, fun hp => ?_⟩
  obtain ⟨ad, e, hc⟩ := h3 hp
  refine ⟨ad, e, fun j p hj => ?_⟩
  rw [List.getElem?_map] at hj
  obtain ⟨i, hi, rfl⟩ := Option.map_eq_some_iff.1 hj
  obtain ⟨c, hl, hR, hcell⟩ := hc j (raw i) (by rw [List.getElem?_map, hi]; rfl)
  obtain ⟨rfl, _, _⟩ := hR
  exact ⟨_, hl, hk i (List.mem_of_getElem? hi), hcell⟩
theorem movedF_word (ns : List Int) (hn : ns.length ≤ 5000) : WordM (movedF ns) := by
  suffices h : ∀ (n : Nat) (r : List Int), r.length ≤ n → n ≤ 5000 → WordM (movedF r) from h ns.length ns (Nat.le_refl _) hn
  intro n
  induction n with
  | zero =>
    intro r hr _ a t _ ht
    obtain rfl := List.length_eq_zero_iff.1 (Nat.le_zero.1 hr)
    cases ht
  | succ n ih =>
    intro r hr hn5
    rcases List.eq_nil_or_concat r with rfl | ⟨q, b, rfl⟩
    · intro a t _ ht; cases ht
    · rw [List.concat_eq_append] at *
      rw [List.length_append] at hr
      have hq : q.length ≤ n := by simpa using hr
      intro a t ha ht
      rw [movedF_snoc] at ht
      by_cases e : a = 2 * b
      · have h2 : (if a = 2 * b then some (2 * (q.length : Int)) else movedF q a) = some t := ht
        rw [if_pos e] at h2
        obtain rfl := Option.some.inj h2
        unfold W64
        omega
      · have h2 : (if a = 2 * b then some (2 * (q.length : Int)) else movedF q a) = some t := ht
        rw [if_neg e] at h2
        exact ih q hq (by omega) a t ha h2
end Go.Proofs.Ytiokegmpooildaa.Hp
