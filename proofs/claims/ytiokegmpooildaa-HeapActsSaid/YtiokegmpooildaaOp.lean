/- What came in, opened: lists of objects and of pairs. -/
import Derived.Test.YtiokegmpooildaaHq
import Derived.Test.YtiokegmpooildaaOf0
import Derived.Deep.Slices
import Derived.Deep.Strs
import Derived.OpenShut
namespace Go.Proofs.Ytiokegmpooildaa.Hp
open Go.RowKit Go.Proofs.YtiokegmpooildaaW.PrintWords Go.Proofs.YtiokegmpooildaaW.PrintLast Go.Proofs.YtiokegmpooildaaW.PrintMore Go.Proofs.Ytiokegmpooildaa.PAll
open Go.ChangeShapes Go.WideShapes
set_option linter.unusedVariables false
set_option linter.unusedSimpArgs false
theorem len3 {α : Type} {cs : List α} (h : cs.length = 3) : ∃ a b c, cs = [a, b, c] := by
  match cs, h with
  | [a, b, c], _ => exact ⟨a, b, c, rfl⟩
theorem len2 {α : Type} {cs : List α} (h : cs.length = 2) : ∃ a b, cs = [a, b] := by
  match cs, h with
  | [a, b], _ => exact ⟨a, b, rfl⟩
section
variable {H : Type} {enc : TypeId × Value → H} {w : World} {base : Nat} {spare : Nat → Bool} {held : Bool}
/-- A slice that is read: its elements as a list, each good. -/
theorem open_C {α : Type} [Inhabited α] {P : Program} (d : Kd α) {t e : TypeId} (ht : P.underlying t = some (.slice e)) (hsz : P.cellsOf e = d.sz) (good : α → Prop)
    (helem : ∀ (n : Nat) (cs : List Value) y, cs.length = d.sz → DataW.trod enc P w base spare held n e cs = some y → ∃ x, d.K w x cs ∧ good x)
    {fuel : Nat} {cs : List Value} {y : DataW H × List MemPlace} (h : DataW.trod enc P w base spare held fuel t cs = some y) :
    ∃ A c xs, cs = [.slice A xs.length c] ∧ xs.length ≤ c ∧ Kd.C d w A xs.length xs ∧ (∀ x ∈ xs, good x) ∧ xs.length ≤ maxLen := by
  rcases Go.Deep.open_slice ht h with ⟨rfl, _⟩ | ⟨a, len, cap, m, n, D, Pl, rfl, hb, hl, hm, hmm, rfl, hx⟩
  · exact ⟨none, 0, [], rfl, Nat.le_refl _, ⟨rfl, Nat.zero_le _, fun h => absurd h (Nat.not_lt_zero _)⟩, (by intro x hx; cases hx), Nat.zero_le _⟩
  · have hlm : len ≤ m := by rw [hmm]; split <;> omega
    have each : ∀ i, i < len → ∃ q : α × List Value, q.2.length = d.sz ∧ d.K w q.1 q.2 ∧ good q.1 ∧ ∀ k u, q.2[k]? = some u → w.cell? (a.add (i * d.sz + k)) = some u := by
      intro i hi
      obtain ⟨cs', h1, h2⟩ := hx i (by omega)
      rw [hsz] at h1
      obtain ⟨_, hlen, hcell⟩ := World.cells?_some h1
      obtain ⟨x, hk, hg⟩ := helem n cs' _ hlen h2
      refine ⟨(x, cs'), hlen, hk, hg, fun k u hu => ?_⟩
      have hk' : k < d.sz := by rw [← hlen]; exact (List.getElem?_eq_some_iff.1 hu).1
      rw [← Go.Deep.add_add, hcell k hk']
      exact hu
    have each' : ∀ i, i < len → ∃ q : Option (α × List Value), ∃ z, q = some z ∧ z.2.length = d.sz ∧ d.K w z.1 z.2 ∧ good z.1 ∧ ∀ k u, z.2[k]? = some u → w.cell? (a.add (i * d.sz + k)) = some u := fun i hi => by
      obtain ⟨z, hz⟩ := each i hi
      exact ⟨some z, z, rfl, hz⟩
    obtain ⟨f, hf⟩ := Go.Deep.choose_lt each'
    let x0 : α := default
    let g : Nat → α := fun i => match f i with
      | some z => z.1
      | none => x0
    have hg : ∀ i, i < len → ∃ z, f i = some z ∧ g i = z.1 := fun i hi => by
      obtain ⟨z, hz, _⟩ := hf i hi
      exact ⟨z, hz, by show (match f i with | some z => z.1 | none => x0) = z.1; rw [hz]⟩
    refine ⟨some a, cap, (List.range len).map g, by simp, by simpa using hl, ⟨rfl, ?_, fun _ => ⟨a, rfl, fun j p hj => ?_⟩⟩, fun x hx => ?_, ?_⟩
    · have : maxLen ≤ 9223372036854775807 := by decide
      simp
      omega
    · have hjl : j < len := by have := (List.getElem?_eq_some_iff.1 hj).1; simpa using this
      obtain ⟨z, hz, hgz⟩ := hg j hjl
      obtain ⟨z', hz', hlen, hk, _, hc⟩ := hf j hjl
      have ez : z' = z := by rw [hz] at hz'; exact (Option.some.inj hz').symm
      subst ez
      have ep : p = z'.1 := by
        have : ((List.range len).map g)[j]? = some (g j) := by simp [hjl]
        rw [this] at hj
        rw [← Option.some.inj hj, hgz]
      rw [ep]
      exact ⟨z'.2, hlen, hk, hc⟩
    · obtain ⟨i, hi, rfl⟩ := List.mem_map.1 hx
      have hil : i < len := List.mem_range.1 hi
      obtain ⟨z, hz, hgz⟩ := hg i hil
      obtain ⟨z', hz', _, _, hgood, _⟩ := hf i hil
      have ez : z' = z := by rw [hz] at hz'; exact (Option.some.inj hz').symm
      subst ez
      rw [hgz]
      exact hgood
    · simp
      omega
theorem open_ints_C {P : Program} (k : IntKind) {t e : TypeId} (ht : P.underlying t = some (.slice e)) (he : P.underlying e = some (.int k)) (hsz : P.cellsOf e = 1) {fuel : Nat} {cs : List Value} {y : DataW H × List MemPlace}
    (h : DataW.trod enc P w base spare held fuel t cs = some y) : ∃ A c xs, cs = [.slice A xs.length c] ∧ xs.length ≤ c ∧ Kd.C (Kd.int k) w A xs.length xs ∧ (∀ x ∈ xs, (Lit.int k x).wf = true) ∧ xs.length ≤ maxLen :=
  open_C (Kd.int k) ht hsz (fun x => (Lit.int k x).wf = true) (fun n cs y _ hy => by
    obtain ⟨a, rfl, _, hw⟩ := DataW.trod_int he hy
    exact ⟨a, rfl, hw⟩) h
theorem w64_of {a : Int} (h : (Lit.int .u64 a).wf = true) : W64 a := by
  unfold W64
  simp only [Lit.wf, Bool.and_eq_true, decide_eq_true_eq] at h
  have h1 : (0 : Int) ≤ a := h.1
  have h2 : a ≤ 18446744073709551615 := h.2
  omega
instance : Inhabited S53 := ⟨z53⟩
instance : Inhabited S38 := ⟨z38⟩
theorem c36 : Try.prog.cellsOf 36 = 1 := by kernel_rfl
theorem c50 : Try.prog.cellsOf 50 = 1 := by kernel_rfl
theorem c51 : Try.prog.cellsOf 51 = 1 := by kernel_rfl
/-- []api.Object. -/
theorem open_objects {fuel : Nat} {cs : List Value} {y : DataW H × List MemPlace} (h : DataW.trod enc Try.prog w base spare held fuel 22 cs = some y) :
    ∃ A c l, cs = [.slice A l.length c] ∧ l.length ≤ c ∧ Kd.C k53 w A l.length l ∧ WordsL l ∧ l.length ≤ maxLen :=
  open_C k53 Try.underlying22 (by kernel_rfl) (fun x : S53 => W64 x.f0 ∧ ∀ a ∈ x.f1, W64 a) (fun n cs y hl hy => by
    obtain ⟨y0, y1, y2, m, _, _, t0, t1, t2⟩ := Go.Deep.trod_struct3 Try.underlying53 hy
    obtain ⟨v0, v1, v2, rfl⟩ := len3 hl
    obtain ⟨a, e0, _, hw⟩ := DataW.trod_int Try.underlying36 t0
    obtain ⟨A1, c1, xs, e1, l1, C1, g1, _⟩ := open_ints_C .u64 Try.underlying50 Try.underlying36 (by kernel_rfl) t1
    obtain ⟨A2, c2, bs, e2, l2, C2, _, _⟩ := open_ints_C .u8 Try.underlying51 Try.underlying5 (by kernel_rfl) t2
    have q0 : v0 = .int .u64 a := by
      have : ([v0, v1, v2].drop 0).take (Try.prog.cellsOf 36) = [.int .u64 a] := e0
      rw [c36] at this
      exact (List.cons.inj this).1
    have q1 : v1 = .slice A1 xs.length c1 := by
      have : ([v0, v1, v2].drop 1).take (Try.prog.cellsOf 50) = [.slice A1 xs.length c1] := e1
      rw [c50] at this
      exact (List.cons.inj this).1
    have q2 : v2 = .slice A2 bs.length c2 := by
      have : ([v0, v1, v2].drop 2).take (Try.prog.cellsOf 51) = [.slice A2 bs.length c2] := e2
      rw [c51] at this
      exact (List.cons.inj this).1
    subst q0
    subst q1
    subst q2
    exact ⟨⟨a, xs, bs⟩, k53_mk w ⟨a, xs, bs⟩ l1 C1 l2 C2, w64_of hw, fun x hx => w64_of (g1 x hx)⟩) h
/-- []api.Pair. -/
theorem open_pairs {fuel : Nat} {cs : List Value} {y : DataW H × List MemPlace} (h : DataW.trod enc Try.prog w base spare held fuel 23 cs = some y) :
    ∃ A c l, cs = [.slice A l.length c] ∧ l.length ≤ c ∧ Kd.C k38 w A l.length l ∧ (∀ p ∈ l, W64 p.f0 ∧ W64 p.f1) ∧ l.length ≤ maxLen :=
  open_C k38 Try.underlying23 (by kernel_rfl) (fun x : S38 => W64 x.f0 ∧ W64 x.f1) (fun n cs y hl hy => by
    obtain ⟨xs, m, _, _, _, hxl, hf⟩ := DataW.trod_struct Try.underlying38 hy
    obtain ⟨v0, v1, rfl⟩ := len2 hl
    obtain ⟨y0, y1, rfl⟩ := len2 hxl
    have t0 := hf 0 _ rfl
    have t1 := hf 1 _ rfl
    obtain ⟨a, e0, _, hw⟩ := DataW.trod_int Try.underlying36 t0
    obtain ⟨b, e1, _, hw'⟩ := DataW.trod_int Try.underlying36 t1
    have q0 : v0 = .int .u64 a := by
      have : ([v0, v1].drop 0).take (Try.prog.cellsOf 36) = [.int .u64 a] := e0
      rw [c36] at this
      exact (List.cons.inj this).1
    have q1 : v1 = .int .u64 b := by
      have : ([v0, v1].drop 1).take (Try.prog.cellsOf 36) = [.int .u64 b] := e1
      rw [c36] at this
      exact (List.cons.inj this).1
    subst q0
    subst q1
    exact ⟨⟨a, b⟩, k38_mk w ⟨a, b⟩, w64_of hw, w64_of hw'⟩) h
end
end Go.Proofs.Ytiokegmpooildaa.Hp
namespace Go.Proofs.Ytiokegmpooildaa.Hp
open Go.RowKit Go.Proofs.YtiokegmpooildaaW.PrintWords Go.Proofs.YtiokegmpooildaaW.PrintLast Go.Proofs.YtiokegmpooildaaW.PrintMore Go.Proofs.Ytiokegmpooildaa.PAll
open Go.ChangeShapes Go.WideShapes
set_option linter.unusedVariables false
set_option linter.unusedSimpArgs false
section
variable {H : Type} {enc : TypeId × Value → H} {w : World} {base : Nat} {spare : Nat → Bool} {held : Bool}
/-- []api.Word. -/
theorem open_words {fuel : Nat} {cs : List Value} {y : DataW H × List MemPlace} (h : DataW.trod enc Try.prog w base spare held fuel 50 cs = some y) :
    ∃ A c l, cs = [.slice A l.length c] ∧ l.length ≤ c ∧ Kd.C (Kd.int .u64) w A l.length l ∧ (∀ a ∈ l, W64 a) ∧ l.length ≤ maxLen := by
  obtain ⟨A, c, xs, e, l1, C1, g1, m1⟩ := open_ints_C .u64 Try.underlying50 Try.underlying36 (by kernel_rfl) h
  exact ⟨A, c, xs, e, l1, C1, fun a ha => w64_of (g1 a ha), m1⟩
/-- []int. -/
theorem open_nums {fuel : Nat} {cs : List Value} {y : DataW H × List MemPlace} (h : DataW.trod enc Try.prog w base spare held fuel 65 cs = some y) :
    ∃ A c l, cs = [.slice A l.length c] ∧ l.length ≤ c ∧ Kd.C (Kd.int .i64) w A l.length l ∧ (∀ a ∈ l, (Lit.int .i64 a).wf = true) ∧ l.length ≤ maxLen :=
  open_ints_C .i64 Try.underlying65 Try.underlying3 (by kernel_rfl) h
end
end Go.Proofs.Ytiokegmpooildaa.Hp
