/- Small things of Make, Set and SetClass. -/
import Derived.Test.YtiokegmpooildaaBs
import Derived.Test.YtiokegmpooildaaSm
import Derived.Test.YtiokegmpooildaaSt
import Derived.Test.YtiokegmpooildaaPAllx2
namespace Go.Proofs.Ytiokegmpooildaa.Hp
open Go.RowKit Go.Proofs.YtiokegmpooildaaW.PrintWords Go.Proofs.YtiokegmpooildaaW.PrintLast Go.Proofs.YtiokegmpooildaaW.PrintMore Go.Proofs.Ytiokegmpooildaa.PAll
set_option linter.unusedVariables false
set_option linter.unusedSimpArgs false

/-- The object that Make makes. -/
def newO (cls slots : Int) (bs : List Int) : S53 := ⟨cls, List.replicate slots.toNat 0, bs⟩
theorem newO_small {cls slots : Int} {bs : List Int} (h1 : slots ≤ 1000) (hb : bs.length ≤ 8000) : (newO cls slots bs).f1.length ≤ 100000 ∧ (newO cls slots bs).f2.length ≤ 100000 := by
  refine ⟨?_, ?_⟩
  · show (List.replicate slots.toNat (0 : Int)).length ≤ 100000
    rw [List.length_replicate]
    omega
  · show bs.length ≤ 100000
    omega
theorem size_new {cls slots : Int} {bs : List Int} (h0 : 0 ≤ slots) (h1 : slots ≤ 1000) (hb : bs.length ≤ 8000) : heap_size.f slots (bs.length : Int) = some (szO (newO cls slots bs)) := by
  have h := size_f (x := newO cls slots bs) (newO_small h1 hb)
  have e : ((newO cls slots bs).f1.length : Int) = slots := by unfold newO; rw [List.length_replicate]; omega
  rw [e] at h
  exact h
theorem clone8_f {bs : List Int} (h : bs.length ≤ 8000) : bytes_Clone.f bs = some bs := by
  unfold bytes_Clone.f
  rw [if_pos (by omega)]
def makeErr (l : List S53) (o wd u cls slots : Int) (nb : Nat) : Int :=
  if thereP l.length cls = true then (if 0 ≤ slots ∧ slots ≤ 1000 ∧ nb ≤ 8000 then (if (l.length : Int) ≠ o ∧ szO (newO cls slots (List.replicate nb 0)) ≤ wd - u then 0 else 60) else 2) else 61
def mk.T7 : Bool × List (List Nat × List Nat) := (true, [([], []), ([0], [0]), ([1], [1]), ([2], [2]), ([], []), ([], []), ([5], [5]), ([4, 6], [4, 6]), ([3, 7], [3, 7]), ([0, 0, 1, 2, 3, 4, 5, 6, 7, 8], [0]), ([9, 0, 1, 2, 3, 4, 5, 6, 7, 8], [9]), ([10, 8, 7, 0, 1, 2, 3, 4, 5, 6, 7, 8], [8, 10])])
def mk.B7 : List Nat := [0, 1, 3, 7, 0, 0, 32, 112, 255, 511, 1023, 2047]
theorem mk.tab7 : rtab .any (opsOf Try.f30 7) = mk.T7 := by kernel_rfl
theorem mk.bits7 : waitsOk mk.T7.2 mk.B7 = true := by kernel_rfl
def mk.T8 : Bool × List (List Nat × List Nat) := (true, [([], []), ([], []), ([1], [1]), ([2], [2]), ([3], [3]), ([], []), ([], []), ([6, 6], [6]), ([], []), ([8], [8]), ([5, 7, 9], [5, 7, 9]), ([10], [10]), ([4, 11, 9], [4, 11]), ([0, 0, 1, 2, 3, 4, 5, 6, 7, 8, 9, 10, 11, 12], [0]), ([13, 0, 1, 2, 3, 4, 5, 6, 7, 8, 9, 10, 11, 12], [13]), ([14, 12, 12, 0, 1, 2, 3, 4, 5, 6, 7, 8, 9, 10, 11, 12], [12, 14])])
def mk.B8 : List Nat := [0, 0, 2, 6, 14, 0, 0, 64, 0, 256, 992, 2016, 4094, 8191, 16383, 32767]
theorem mk.tab8 : rtab .any (opsOf Try.f30 8) = mk.T8 := by kernel_rfl
theorem mk.bits8 : waitsOk mk.T8.2 mk.B8 = true := by kernel_rfl
theorem HeapO.below {W W' : World} {g base : Nat} {ok : Nat → Prop} {l : List S53} {o wd u : Int} (h : HeapO W g base ok l o wd u) (hb : Below W.heap.size W W') : HeapO W' g base ok l o wd u := by
  obtain ⟨v, h1, h2, h3, h4⟩ := h
  exact ⟨v, by rw [hb.block g (blk_lt h1)]; exact h1, h2, h3, Kd.S_below h4 hb⟩
def setErr (l : List S53) (a i v : Int) : Int := if slotErr l a i = 0 then (if mayP l.length v = true then 0 else 61) else slotErr l a i
def putL (l : List S53) (a i v : Int) : List S53 := l.set (a / 2).toNat ⟨(rd_T53 l (a / 2)).f0, (rd_T53 l (a / 2)).f1.set i.toNat v, (rd_T53 l (a / 2)).f2⟩
def setL (l : List S53) (a i v : Int) : List S53 := if setErr l a i v = 0 then putL l a i v else l
def setCErr (l : List S53) (a c : Int) : Int := if thereP l.length a = true ∧ thereP l.length c = true then 0 else 61
def putCL (l : List S53) (a c : Int) : List S53 := l.set (a / 2).toNat ⟨c, (rd_T53 l (a / 2)).f1, (rd_T53 l (a / 2)).f2⟩
def setCL (l : List S53) (a c : Int) : List S53 := if setCErr l a c = 0 then putCL l a c else l
theorem cell_apart {W : World} {g b k : Nat} {v : Value} {o wd u x : Int} (h : W.heap[g]? = some (.cells #[v, .int .i64 o, .int .i64 wd, .int .i64 u] 94 (0, 0))) (hv : ∀ y, v ≠ .int .u64 y) (hc : W.cell? ⟨b, k, none⟩ = some (.int .u64 x)) : b ≠ g := by
  rintro rfl
  have hk := blk_cell h k
  rw [hc] at hk
  match k, hk with
  | 0, hk => exact hv x (Option.some.inj hk.symm)
  | 1, hk => exact absurd (Option.some.inj hk) (by simp)
  | 2, hk => exact absurd (Option.some.inj hk) (by simp)
  | 3, hk => exact absurd (Option.some.inj hk) (by simp)
  | n + 4, hk => simp at hk
def makeE (l : List S53) (o wd u cls slots : Int) (bs : List Int) : Int :=
  if thereP l.length cls = true then (if 0 ≤ slots ∧ slots ≤ 1000 ∧ bs.length ≤ 8000 then (if (l.length : Int) ≠ o ∧ szO (newO cls slots bs) ≤ wd - u then 0 else 60) else 2) else 61
def makeW (l : List S53) (o wd u cls slots : Int) (bs : List Int) : Int := if makeE l o wd u cls slots bs = 0 then 2 * (l.length : Int) else 0
def makeL (l : List S53) (o wd u cls slots : Int) (bs : List Int) : List S53 := if makeE l o wd u cls slots bs = 0 then l ++ [newO cls slots bs] else l
def makeU (l : List S53) (o wd u cls slots : Int) (bs : List Int) : Int := if makeE l o wd u cls slots bs = 0 then u + szO (newO cls slots bs) else u
theorem HeapO.weaken {W : World} {g base base' : Nat} {l : List S53} {o wd u : Int} (h : HeapO W g base (fun k => base ≤ k) l o wd u) (hb : base' ≤ base) : HeapO W g base' (fun k => base' ≤ k) l o wd u := by
  obtain ⟨v, h1, h2, h3, h4⟩ := h
  exact ⟨v, h1, Nat.le_trans hb h2, Nat.le_trans hb h3, Kd.S_mono (Kd.S_lower h4 hb) (fun k hk => Nat.le_trans hb hk)⟩
end Go.Proofs.Ytiokegmpooildaa.Hp
