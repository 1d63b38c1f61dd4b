/- heap.Of: which objects make a heap, with which room, or why not. -/
import Derived.Test.YtiokegmpooildaaOb
import Derived.Test.YtiokegmpooildaaHr
import Derived.Outline
namespace Go.Proofs.Ytiokegmpooildaa.Hp
open Go.RowKit Go.Proofs.YtiokegmpooildaaW.PrintWords Go.Proofs.YtiokegmpooildaaW.PrintLast Go.Proofs.YtiokegmpooildaaW.PrintMore Go.Proofs.Ytiokegmpooildaa.PAll
set_option linter.unusedVariables false
set_option linter.unusedSimpArgs false
/-- An object's words; the words of some. -/
def szO (x : S53) : Int := 2 + (x.f1.length : Int) + ((x.f2.length : Int) + 7) / 8
def usedL : List S53 → Int
  | [] => 0
  | x :: r => szO x + usedL r
theorem usedL_snoc (l : List S53) (x : S53) : usedL (l ++ [x]) = usedL l + szO x := by
  induction l with
  | nil => simp [usedL]
  | cons y r ih => simp only [List.cons_append, usedL, ih]; omega
theorem szO_le {x : S53} (h : x.f1.length ≤ 100000 ∧ x.f2.length ≤ 100000) : 2 ≤ szO x ∧ szO x ≤ 112503 := by
  unfold szO
  omega
theorem usedL_le {l : List S53} (h : ∀ x ∈ l, x.f1.length ≤ 100000 ∧ x.f2.length ≤ 100000) : 0 ≤ usedL l ∧ usedL l ≤ 112503 * l.length := by
  induction l with
  | nil => simp [usedL]
  | cons y r ih =>
    have h1 := szO_le (h y (List.mem_cons_self ..))
    have h2 := ih (fun x hx => h x (List.mem_cons_of_mem _ hx))
    simp only [usedL, List.length_cons]
    omega
theorem used_take {l : List S53} (h : SmallL l) (i : Int) : 0 ≤ usedL (l.take i.toNat) ∧ usedL (l.take i.toNat) ≤ 600000000 := by
  have := usedL_le (l := l.take i.toNat) (fun x hx => h.2 x (List.mem_of_mem_take hx))
  have h2 : (l.take i.toNat).length ≤ 5000 := by rw [List.length_take]; have := h.1; omega
  omega
theorem size_f {x : S53} (h : x.f1.length ≤ 100000 ∧ x.f2.length ≤ 100000) : heap_size.f (x.f1.length : Int) (x.f2.length : Int) = some (szO x) := by
  unfold heap_size.f szO
  rw [show wrap64 ((x.f2.length : Int) + 7) = (x.f2.length : Int) + 7 from by unfold wrap64; omega, Int.tdiv_eq_ediv_of_nonneg (by omega)]
  congr 1
  unfold wrap64
  omega
/-- May an object not stand in a heap of n? -/
def badO (n : Nat) (x : S53) : Bool := !thereP n x.f0 || x.f1.any fun a => !mayP n a
def roomP (o wd : Int) : Prop := 1 ≤ o ∧ o ≤ 4096 ∧ 2 ≤ wd ∧ wd ≤ 1073741824
/-- What stops Of, where the room is right; 0: nothing. -/
def ofErr (l : List S53) (o wd : Int) : Int :=
  if (l.length : Int) > o ∨ usedL l > wd then 60 else if l.any (badO l.length) = true then 61 else if l = [] then 61 else 0
def WordsL (l : List S53) : Prop := ∀ x ∈ l, W64 x.f0 ∧ ∀ a ∈ x.f1, W64 a
/-- A heap of the call's own: at block g, its rows from base on, all of them ok. -/
def HeapO (W : World) (g base : Nat) (ok : Nat → Prop) (l : List S53) (o wd u : Int) : Prop :=
  ∃ v, W.heap[g]? = some (.cells #[v, .int .i64 o, .int .i64 wd, .int .i64 u] 94 (0, 0)) ∧ base ≤ g ∧ ok g ∧ Kd.S k53 53 W base ok v l
theorem HeapO.reads {W : World} {g base : Nat} {ok : Nat → Prop} {l : List S53} {o wd u : Int} (h : HeapO W g base ok l o wd u) : HeapC W g l o wd u := by
  obtain ⟨v, h1, _, _, h2⟩ := h
  obtain ⟨A, c, rfl, hl, hC⟩ := Kd.S_reads h2
  exact ⟨A, c, h1, hl, hC⟩
theorem any_next {p : S53 → Bool} {xs : List S53} {i : Int} (h0 : 0 ≤ i) (h1 : i < (xs.length : Int)) : (xs.take (i + 1).toNat).any p = ((xs.take i.toNat).any p || p (rd_T53 xs i)) := by
  rw [take_next xs i h0 h1, List.any_append]
  simp
theorem rdT_mem {xs : List S53} {i : Int} (h0 : 0 ≤ i) (h1 : i < (xs.length : Int)) : rd_T53 xs i ∈ xs := by
  unfold rd_T53
  rw [List.getD_eq_getElem?_getD, List.getElem?_eq_getElem (by omega)]
  exact List.getElem_mem _

set_option maxHeartbeats 4000000 in
set_option maxRecDepth 100000 in
theorem of_room1 (A0 : Option Addr) (c0 : Nat) (l : List S53) (o wd : Int) (w : World) (h : o < 1) :
    Calls Try.prog 14 #[.slice A0 l.length c0, .int .i64 o, .int .i64 wd] w fun e w' => e = .returned (.tuple #[.pointer none, .int .i64 2]) ∧ Below w.heap.size w w' := by
  go_enter Try.func14, Try.ntmps14
  go_wp2_with (fail)
  go_ret2
  exact ⟨rfl, by repeat (first | exact Below.refl _ _ | apply below_alloc | apply pw_below_drewN | apply below_drew1)⟩
set_option maxHeartbeats 4000000 in
set_option maxRecDepth 100000 in
theorem of_room2 (A0 : Option Addr) (c0 : Nat) (l : List S53) (o wd : Int) (w : World) (h : 4096 < o) :
    Calls Try.prog 14 #[.slice A0 l.length c0, .int .i64 o, .int .i64 wd] w fun e w' => e = .returned (.tuple #[.pointer none, .int .i64 2]) ∧ Below w.heap.size w w' := by
  have h0 : 1 ≤ o := by omega
  go_enter Try.func14, Try.ntmps14
  go_wp2_with (fail)
  go_ret2
  exact ⟨rfl, by repeat (first | exact Below.refl _ _ | apply below_alloc | apply pw_below_drewN | apply below_drew1)⟩
set_option maxHeartbeats 4000000 in
set_option maxRecDepth 100000 in
theorem of_room3 (A0 : Option Addr) (c0 : Nat) (l : List S53) (o wd : Int) (w : World) (h1 : 1 ≤ o) (h2 : o ≤ 4096) (h : wd < 2) :
    Calls Try.prog 14 #[.slice A0 l.length c0, .int .i64 o, .int .i64 wd] w fun e w' => e = .returned (.tuple #[.pointer none, .int .i64 2]) ∧ Below w.heap.size w w' := by
  go_enter Try.func14, Try.ntmps14
  go_wp2_with (fail)
  go_ret2
  exact ⟨rfl, by repeat (first | exact Below.refl _ _ | apply below_alloc | apply pw_below_drewN | apply below_drew1)⟩
set_option maxHeartbeats 4000000 in
set_option maxRecDepth 100000 in
theorem of_room4 (A0 : Option Addr) (c0 : Nat) (l : List S53) (o wd : Int) (w : World) (h1 : 1 ≤ o) (h2 : o ≤ 4096) (h3 : 2 ≤ wd) (h : 1073741824 < wd) :
    Calls Try.prog 14 #[.slice A0 l.length c0, .int .i64 o, .int .i64 wd] w fun e w' => e = .returned (.tuple #[.pointer none, .int .i64 2]) ∧ Below w.heap.size w w' := by
  go_enter Try.func14, Try.ntmps14
  go_wp2_with (fail)
  go_ret2
  exact ⟨rfl, by repeat (first | exact Below.refl _ _ | apply below_alloc | apply pw_below_drewN | apply below_drew1)⟩
end Go.Proofs.Ytiokegmpooildaa.Hp
