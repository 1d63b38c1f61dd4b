/- Small arithmetic on 64-bit words for the statements of layer 17: plain numbers, no program. -/
import Derived.Laws.BitsAllLaws
import Derived.Laws.MathBits
import Derived.WalkSmall
import Derived.IntWalk
import Derived.OpenShut
namespace Go.Proofs.Ytbmcplnkcafikaa.Aid
open Go.RowKit

theorem uw (n : Int) : IntKind.u64.wrap n = n % 18446744073709551616 := IntKind.wrap_u64 n

theorem nat_or1 (m : Nat) (h : m % 2 = 0) : m ||| 1 = m + 1 := by
  obtain ⟨k, rfl⟩ : ∃ k, m = 2 * k := ⟨m / 2, by omega⟩
  rw [Nat.mul_comm]
  have := Nat.shiftLeft_add_eq_or_of_lt (b := 1) (i := 1) (by decide) k
  rw [Nat.shiftLeft_eq] at this
  simpa using this.symm

theorem or1 (n : Int) (h0 : 0 ≤ n) (h1 : n < 18446744073709551616) (he : n % 2 = 0) : bits .or .u64 n 1 = n + 1 := by
  rw [u64_or n 1 h0 h1 (by omega) (by omega)]
  have := nat_or1 n.toNat (by omega)
  simp only [Int.toNat_one] at *
  rw [this]
  omega

theorem and1 (n : Int) (h0 : 0 ≤ n) (h1 : n < 18446744073709551616) : bits .and .u64 n 1 = n % 2 := and_one_u64 n h0 (by omega)

end Go.Proofs.Ytbmcplnkcafikaa.Aid
