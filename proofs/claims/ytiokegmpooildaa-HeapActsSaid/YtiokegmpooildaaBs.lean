/- Small things that many of the texts use. -/
import Derived.Test.YtiokegmpooildaaHr
import Derived.Test.YtiokegmpooildaaOf0
import Derived.Test.YtiokegmpooildaaPAllx2
namespace Go.Proofs.Ytiokegmpooildaa.Hp
open Go.RowKit Go.Proofs.YtiokegmpooildaaW.PrintWords Go.Proofs.YtiokegmpooildaaW.PrintLast Go.Proofs.YtiokegmpooildaaW.PrintMore Go.Proofs.Ytiokegmpooildaa.PAll
set_option linter.unusedVariables false
set_option linter.unusedSimpArgs false
theorem thereP_in {n : Nat} {a : Int} (h : thereP n a = true) : a % 2 = 0 ∧ a / 2 < (n : Int) := by
  unfold thereP at h
  exact of_decide_eq_true h
def turn1 (m : Int → Option Int) (a : Int) : Int := (m a).getD a
def turnO (m : Int → Option Int) (x : S53) : S53 := ⟨turn1 m x.f0, x.f1.map (turn1 m), x.f2⟩
/-- Words, the first y of them turned. -/
def turnS (m : Int → Option Int) (f : List Int) (y : Nat) : List Int := (f.take y).map (turn1 m) ++ f.drop y
theorem turnS_length (m : Int → Option Int) (f : List Int) (y : Nat) : (turnS m f y).length = f.length := by
  unfold turnS
  rw [List.length_append, List.length_map, List.length_take, List.length_drop]
  omega
theorem turnS_at (m : Int → Option Int) (l : List Int) (x : Int) (h0 : 0 ≤ x) (h1 : x < (l.length : Int)) : rd (turnS m l x.toNat) x = rd l x := by
  unfold turnS rd
  rw [List.getD_eq_getElem?_getD, List.getD_eq_getElem?_getD, List.getElem?_append_right (by rw [List.length_map, List.length_take]; omega), List.getElem?_drop, List.length_map, List.length_take]
  congr 2
  omega
theorem turnS_next (m : Int → Option Int) (l : List Int) (x : Int) (h0 : 0 ≤ x) (h1 : x < (l.length : Int)) : (turnS m l x.toNat).set x.toNat (turn1 m (rd l x)) = turnS m l (x + 1).toNat := by
  apply List.ext_getElem?
  intro j
  have e : (x + 1).toNat = x.toNat + 1 := by omega
  have hx : x.toNat < l.length := by omega
  unfold turnS rd
  rw [e, List.getElem?_set, List.getD_eq_getElem?_getD, List.getElem?_eq_getElem hx, List.getElem?_append, List.getElem?_append]
  simp only [List.length_map, List.length_take, List.length_append, List.length_drop, List.getElem?_map, List.getElem?_take, List.getElem?_drop]
  by_cases h2 : x.toNat = j
  · subst h2
    rw [if_pos rfl, if_pos (by omega), if_pos (by omega), if_pos (by omega), List.getElem?_eq_getElem hx]
    rfl
  · rw [if_neg h2]
    by_cases h3 : j < x.toNat
    · rw [if_pos (by omega), if_pos (by omega), if_pos (by omega), if_pos (by omega)]
    · rw [if_neg (by omega), if_neg (by omega)]
      congr 1
      omega
theorem turn1_W {m : Int → Option Int} {a : Int} (hm : ∀ a t, W64 a → m a = some t → W64 t) (ha : W64 a) : W64 (turn1 m a) := by
  unfold turn1
  cases h : m a with
  | none => exact ha
  | some t => exact hm a t ha h
/-- A map that leads words to words. -/
def WordM (m : Int → Option Int) : Prop := ∀ a t, W64 a → m a = some t → W64 t
theorem ref_f {n : Nat} (h : n ≤ 5000) : word_Ref.f (n : Int) = some (2 * (n : Int), true) := by
  unfold word_Ref.f
  rw [if_neg (by omega), if_neg (by omega)]
  have e2 : IntKind.u64.wrap (n : Int) = (n : Int) % 18446744073709551616 := by kernel_rfl
  rw [e2]
  have e3 : IntKind.u64.wrap ((n : Int) % 18446744073709551616 * 2) = ((n : Int) % 18446744073709551616 * 2) % 18446744073709551616 := by kernel_rfl
  rw [e3]
  congr 2
  omega
/-- 'string(b)', for the walk. -/
theorem str_event {P : Program} {ops : Array Oper} {rest : List Oper} {o : Oper} {a : Act} {Q : Exit → Act → World → Prop} {W : World} (hgd : o.guard = none) (t s e : TypeId) (x : Operand) (ho : o.op = .convert t s x)
    (ht : P.underlying t = some (.slice e)) (he : P.underlying e = some (.int .u8)) (hs : P.underlying s = some .string) (A : Option Addr) (n c : Nat) (xs : List Int) (hx : a.eval x = .slice A n c) (hC : Kd.C (Kd.int .u8) W A n xs)
    (h : wpList P ops Q rest (a.put o.dst (.string (strOfNums xs))) W) : wpList P ops Q (o :: rest) a W := by
  refine Kd.event_run (w1 := W) (v := .string (strOfNums xs)) hgd ?_ h
  unfold execOp
  simp only [ho, hx, Sem.run_bind, Kd.C_string ht he hs hC, Result.andThen_ok, Sem.run_pure]
/-- An object's three cells, as they stand. -/
def kraw : Kd (Int × Value × Value) where
  sz := 3
  E := []
  K := fun _ x cs => cs = [.int .u64 x.1, x.2.1, x.2.2] ∧ x.2.1.oneCell' = true ∧ x.2.2.oneCell' = true
  M := fun _ _ _ x cs => cs = [.int .u64 x.1, x.2.1, x.2.2] ∧ x.2.1.oneCell' = true ∧ x.2.2.oneCell' = true
  K_len := by rintro w x cs ⟨rfl, _⟩; rfl
  K_one := by
    rintro w x cs ⟨rfl, h1, h2⟩ u hu
    rcases List.mem_cons.1 hu with rfl | hu
    · rfl
    · rcases List.mem_cons.1 hu with rfl | hu
      · exact h1
      · obtain rfl := List.mem_singleton.1 hu
        exact h2
  K_below := fun _ h => h
  K_of_M := fun h => h
  M_mono := fun _ h => h
  M_bound := fun h => h
  M_move := fun _ h => h
  M_lower := fun _ h => h
end Go.Proofs.Ytiokegmpooildaa.Hp
