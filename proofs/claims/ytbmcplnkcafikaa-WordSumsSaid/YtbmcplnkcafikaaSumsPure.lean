/- What layer 17's sums answer, as plain numbers; and so the walk of WordSums: the sum, the difference, the product, the quotient and the order of any two ints, and of other words nothing, as by the reference. No condition. -/
import Derived.Test.YtbmcplnkcafikaaSumsWalk
import Derived.Test.YtbmcplnkcafikaaAid
namespace Go.Proofs.Ytbmcplnkcafikaa.Pure
open Go.RowKit Go.Proofs.Ytbmcplnkcafikaa.PWordSums Go.Proofs.YtbmcplnkcafikaaW.PrintWords Go.Proofs.YtbmcplnkcafikaaW.PrintLast Go.Proofs.Ytbmcplnkcafikaa.Aid Go.Proofs.Ytbmcplnkcafikaa.WSums

def encW (a : Int) : Int := (2 * a) % 18446744073709551616 + 1
def inW (a : Int) : Prop := -4611686018427387904 ≤ a ∧ a ≤ 4611686018427387903
instance (a : Int) : Decidable (inW a) := inferInstanceAs (Decidable (_ ∧ _))

theorem WordSums_awake : monticulelaw17_awake.f = some true := by decide +kernel

theorem int_yes {a : Int} (h : inW a) : word_Int.f a = some (encW a, true) := by
  unfold inW at h
  unfold word_Int.f encW
  rw [if_neg (by omega), if_neg (by omega), or1 _ (by rw [uw, uw]; omega) (by rw [uw, uw]; omega) (by rw [uw, uw]; omega), uw, uw]
  congr 2
  omega
theorem int_no {a : Int} (h : ¬ inW a) : word_Int.f a = some (0, false) := by
  unfold inW at h
  unfold word_Int.f
  by_cases h1 : a > 4611686018427387903
  · rw [if_pos h1]
  · rw [if_neg h1, if_pos (by omega)]
theorem is_f (a : Int) : monticuleref17_Is.f a = some (decide (inW a)) := by
  unfold monticuleref17_Is.f
  by_cases h : inW a
  · rw [decide_eq_true h]
    unfold inW at h
    rw [if_pos (by omega), decide_eq_true (by omega)]
  · rw [decide_eq_false h]
    unfold inW at h
    by_cases h1 : a ≥ -4611686018427387904
    · rw [if_pos h1, decide_eq_false (by omega)]
    · rw [if_neg h1]
theorem ref_int (a : Int) (_hb : -9223372036854775808 ≤ a ∧ a ≤ 9223372036854775807) : monticuleref17_Int.f a = word_Int.f a := by
  unfold monticuleref17_Int.f
  rw [is_f]
  simp only [Option.bind_some, decide_eq_true_eq]
  by_cases h : inW a
  · rw [if_pos h, int_yes h, uw, uw, uw]
    unfold encW
    unfold inW at h
    congr 2
    omega
  · rw [if_neg h, int_no h]

theorem value_enc {a : Int} (h : inW a) : word_Value.f (encW a) = some (a, true) := by
  unfold inW at h
  have hi : word_IsInt.f (encW a) = some true := by
    unfold word_IsInt.f encW
    rw [and1 _ (by omega) (by omega)]
    congr 1
    rw [beq_iff_eq]
    omega
  unfold word_Value.f
  rw [hi]
  simp only [Option.bind_some, if_true]
  unfold encW wrap64
  congr 2
  omega
theorem value_even {v : Int} (h0 : 0 ≤ v) (h1 : v < 18446744073709551616) (h2 : v % 2 = 0) : word_Value.f v = some (0, false) := by
  unfold word_Value.f word_IsInt.f
  rw [and1 _ h0 h1, h2]
  simp

theorem two_yes {a b : Int} (ha : inW a) (hb : inW b) : word_two.f (encW a) (encW b) = some (a, b, true) := by
  unfold word_two.f
  rw [value_enc ha, value_enc hb]
  simp
theorem two_left {v b : Int} (h0 : 0 ≤ v) (h1 : v < 18446744073709551616) (h2 : v % 2 = 0) (hb : inW b) : word_two.f v (encW b) = some (0, b, false) := by
  unfold word_two.f
  rw [value_even h0 h1 h2, value_enc hb]
  simp
theorem two_right {v b : Int} (h0 : 0 ≤ v) (h1 : v < 18446744073709551616) (h2 : v % 2 = 0) (hb : inW b) : word_two.f (encW b) v = some (b, 0, false) := by
  unfold word_two.f
  rw [value_even h0 h1 h2, value_enc hb]
  simp
theorem two_none {v : Int} (h0 : 0 ≤ v) (h1 : v < 18446744073709551616) (h2 : v % 2 = 0) : word_two.f v v = some (0, 0, false) := by
  unfold word_two.f
  rw [value_even h0 h1 h2]
  simp

def absW (a : Int) : Int := if a < 0 then -a else a
theorem size_f {a : Int} (h : inW a) : word_size.f a = some (absW a) := by
  unfold inW at h
  unfold word_size.f absW
  by_cases h1 : a < 0
  · rw [if_pos h1, if_pos h1, uw, uw]
    congr 1
    omega
  · rw [if_neg h1, if_neg h1, uw]
    congr 1
    omega
theorem abs_le {a : Int} (h : inW a) : 0 ≤ absW a ∧ absW a ≤ 4611686018427387904 := by
  unfold inW at h
  unfold absW
  split <;> omega
theorem mul64_f (x y : Int) (hx0 : 0 ≤ x) (hx : x < 18446744073709551616) (hy0 : 0 ≤ y) (hy : y < 18446744073709551616) :
    bits_Mul64.f x y = some (x * y / 18446744073709551616, x * y % 18446744073709551616) := by
  unfold bits_Mul64.f
  have ha := mul64_arith x y hx0 hx hy0 hy
  rw [and_low32 x hx0 hx, and_low32 y hy0 hy]
  simp only [uw]
  rw [and_low32 _ (by omega) (by omega)]
  rw [ha]

theorem half_f {a : Int} (h : inW a) : monticuleref17_half.f a = some (absW a % 4294967296, absW a / 4294967296) := by
  unfold inW at h
  unfold monticuleref17_half.f absW
  by_cases h1 : a < 0
  · have e : IntKind.u64.wrap (wrap64 (-a)) = -a := by
      rw [uw]
      unfold wrap64
      omega
    rw [if_pos h1, if_pos h1, e, Int.tmod_eq_emod_of_nonneg (by omega), Int.tdiv_eq_ediv_of_nonneg (by omega), uw]
    unfold wrap64
    congr 2 <;> omega
  · have e : IntKind.u64.wrap a = a := by
      rw [uw]
      omega
    rw [if_neg h1, if_neg h1, e, Int.tmod_eq_emod_of_nonneg (by omega), Int.tdiv_eq_ediv_of_nonneg (by omega), uw]
    unfold wrap64
    congr 2 <;> omega

/-- What both make of a product: nothing where the sizes' product passes 2^62; else the int. -/
theorem word_mul {a b : Int} (ha : inW a) (hb : inW b) : word_Mul.f (encW a) (encW b) = if absW a * absW b > 4611686018427387904 then some (0, false) else word_Int.f (wrap64 (a * b)) := by
  have h1 := abs_le ha
  have h2 := abs_le hb
  unfold word_Mul.f
  rw [two_yes ha hb]
  simp only [Option.bind_some]
  rw [size_f ha, size_f hb]
  simp only [Option.bind_some]
  rw [mul64_f _ _ h1.1 (by omega) h2.1 (by omega)]
  simp only [Option.bind_some, if_true]
  have h0 : 0 ≤ absW a * absW b := Int.mul_nonneg h1.1 h2.1
  generalize absW a * absW b = P at *
  by_cases hP : P > 4611686018427387904
  · rw [if_pos hP]
    by_cases hq : P / 18446744073709551616 > 0
    · rw [if_pos hq]
    · rw [if_neg hq, if_pos (by omega)]
  · rw [if_neg hP, if_neg (by omega), if_neg (by omega)]
    cases word_Int.f (wrap64 (a * b)) <;> rfl

theorem lo_hi (A B : Int) : A * B = (A / 4294967296) * (B / 4294967296) * 18446744073709551616 + ((A % 4294967296) * (B / 4294967296) + (A / 4294967296) * (B % 4294967296)) * 4294967296 + (A % 4294967296) * (B % 4294967296) := by
  have e1 : A = A / 4294967296 * 4294967296 + A % 4294967296 := by omega
  have e2 : B = B / 4294967296 * 4294967296 + B % 4294967296 := by omega
  have := split_mul (A / 4294967296) (A % 4294967296) (B / 4294967296) (B % 4294967296)
  rw [← e1, ← e2] at this
  rw [this]
  omega

theorem le_mul {x y m n : Int} (hx : 0 ≤ x) (hm : x ≤ m) (hy : 0 ≤ y) (hn : y ≤ n) : 0 ≤ x * y ∧ x * y ≤ m * n :=
  ⟨Int.mul_nonneg hx hy, Int.mul_le_mul hm hn hy (by omega)⟩

theorem ref_mul {a b : Int} (k : Nat) (ha : inW a) (hb : inW b) : monticuleref17_Mul.f (k + 1) a b = if absW a * absW b > 4611686018427387904 then some (0, false) else some (wrap64 (a * b), decide (inW (wrap64 (a * b)))) := by
  have h1 := abs_le ha
  have h2 := abs_le hb
  unfold monticuleref17_Mul.f
  rw [half_f ha, half_f hb]
  simp only [Option.bind_some]
  generalize hA : absW a = A at *
  generalize hB : absW b = B at *
  have hs := lo_hi A B
  have b1 : 0 ≤ A % 4294967296 ∧ A % 4294967296 ≤ 4294967295 := by omega
  have b2 : 0 ≤ B % 4294967296 ∧ B % 4294967296 ≤ 4294967295 := by omega
  have b3 : 0 ≤ A / 4294967296 ∧ A / 4294967296 ≤ 1073741824 := by omega
  have b4 : 0 ≤ B / 4294967296 ∧ B / 4294967296 ≤ 1073741824 := by omega
  generalize A % 4294967296 = x6 at *
  generalize A / 4294967296 = x7 at *
  generalize B % 4294967296 = x8 at *
  generalize B / 4294967296 = x9 at *
  have pll := le_mul b1.1 b1.2 b2.1 b2.2
  have plh := le_mul b1.1 b1.2 b4.1 b4.2
  have phl := le_mul b3.1 b3.2 b2.1 b2.2
  by_cases hbd : 0 < x7 ∧ 0 < x9
  · have hp : 1 ≤ x7 * x9 := Int.mul_pos hbd.1 hbd.2
    rw [if_pos hbd.1]
    simp only [monticuleref17_Mul.j0]
    rw [if_pos (by simpa using hbd.2), if_pos (by generalize x7 * x9 = t1 at *; generalize x6 * x9 = t2 at *; generalize x7 * x8 = t3 at *; generalize x6 * x8 = t4 at *; omega)]
  · have hz : x7 * x9 = 0 := by
      rcases Int.lt_or_le 0 x7 with h | h
      · have : x9 = 0 := by omega
        rw [this, Int.mul_zero]
      · have : x7 = 0 := by omega
        rw [this, Int.zero_mul]
    have hm : x6 * x9 = 0 ∨ x7 * x8 = 0 := by
      rcases Int.lt_or_le 0 x7 with h | h
      · left
        have : x9 = 0 := by omega
        rw [this, Int.mul_zero]
      · right
        have : x7 = 0 := by omega
        rw [this, Int.zero_mul]
    have hj : (if x7 > 0 then monticuleref17_Mul.j0 (k + 1) a b x6 x7 x8 x9 (decide (x9 > 0)) else monticuleref17_Mul.j0 (k + 1) a b x6 x7 x8 x9 false) = monticuleref17_Mul.j0 (k + 1) a b x6 x7 x8 x9 false := by
      by_cases h : x7 > 0
      · rw [if_pos h, show decide (x9 > 0) = false from decide_eq_false (by omega)]
      · rw [if_neg h]
    rw [hj]
    simp only [monticuleref17_Mul.j0, is_f, Option.bind_some, uw]
    rw [if_neg (by simp)]
    rw [hs, hz]
    have e8 : x8 % 18446744073709551616 = x8 := by omega
    have e6 : x6 % 18446744073709551616 = x6 := by omega
    rw [e8, e6]
    generalize x6 * x9 = t2 at *
    generalize x7 * x8 = t3 at *
    generalize x6 * x8 = t4 at *
    generalize (some (wrap64 (a * b), decide (inW (wrap64 (a * b))))) = R at *
    unfold wrap64
    by_cases c1 : t2 + t3 ≥ 1073741825
    · rw [if_pos (by omega), if_pos (by omega)]
    · rw [if_neg (by omega)]
      by_cases c2 : t2 + t3 > 0
      · rw [if_pos (by omega)]
        by_cases c3 : (t2 + t3) * 4294967296 + t4 ≥ 18446744073709551616
        · rw [if_pos (by omega), if_pos (by omega)]
        · rw [if_neg (by omega)]
          by_cases c4 : (t2 + t3) * 4294967296 + t4 > 4611686018427387904
          · rw [if_pos (by omega), if_pos (by omega)]
          · rw [if_neg (by omega), if_neg (by omega)]
      · rw [if_neg (by omega)]
        by_cases c4 : t4 > 4611686018427387904
        · rw [if_pos (by omega), if_pos (by omega)]
        · rw [if_neg (by omega), if_neg (by omega)]

theorem wrap_in (x : Int) : -9223372036854775808 ≤ wrap64 x ∧ wrap64 x ≤ 9223372036854775807 := by
  unfold wrap64
  omega

theorem WordSums_calls (a b o : Int) (w : World) (wa : (Lit.int .i64 a).wf = true) (wb : (Lit.int .i64 b).wf = true) (wo : (Lit.int .u64 o).wf = true) :
    Calls Try.prog 6 #[.int .i64 a, .int .i64 b, .int .u64 o] w fun e w' => e = .returned (.bool true) ∧ Drawn0 w w' := by
  have ba := bounds_i64 wa
  have bb := bounds_i64 wb
  have bo := bounds_u64 wo
  have hA := Aside0.mk WordSums_awake
  by_cases ha : inW a
  · have hIa : Aside0 (monticuleref17_Is.f a = some true) := ⟨by rw [is_f, decide_eq_true ha]⟩
    by_cases hb : inW b
    · have hIb : Aside0 (monticuleref17_Is.f b = some true) := ⟨by rw [is_f, decide_eq_true hb]⟩
      have v0 : 0 ≤ o - o % 2 := by omega
      have v1 : o - o % 2 < 18446744073709551616 := by omega
      have v2 : (o - o % 2) % 2 = 0 := by omega
      have e1 : word_Add.f (encW a) (o - o % 2) = some (0, false) := by
        unfold word_Add.f
        rw [two_right v0 v1 v2 ha]
        simp
      have e2 : word_Sub.f (o - o % 2) (encW a) = some (0, false) := by
        unfold word_Sub.f
        rw [two_left v0 v1 v2 ha]
        simp
      have e3 : word_Mul.f (o - o % 2) (o - o % 2) = some (0, false) := by
        unfold word_Mul.f
        rw [two_none v0 v1 v2]
        simp only [Option.bind_some]
        rw [size_f (a := 0) (by unfold inW; omega)]
        simp only [Option.bind_some]
        rw [mul64_f _ _ (by decide) (by decide) (by decide) (by decide)]
        simp
      have e4 : word_Div.f (encW a) (o - o % 2) = some (0, false) := by
        unfold word_Div.f
        rw [two_right v0 v1 v2 ha]
        simp
      have e5 : word_Less.f (o - o % 2) (encW b) = some (false, false) := by
        unfold word_Less.f
        rw [two_left v0 v1 v2 hb]
        simp
      have tot : ∀ x, ∃ r t, word_Int.f x = some (r, t) := fun x => by
        by_cases h : inW x
        · exact ⟨_, _, int_yes h⟩
        · exact ⟨_, _, int_no h⟩
      obtain ⟨r1, t1, h1⟩ := tot (wrap64 (a + b))
      obtain ⟨r2, t2, h2⟩ := tot (wrap64 (a - b))
      have g1 : monticuleref17_Int.f (wrap64 (a + b)) = some (r1, t1) := by rw [ref_int _ (wrap_in _), h1]
      have g2 : monticuleref17_Int.f (wrap64 (a - b)) = some (r2, t2) := by rw [ref_int _ (wrap_in _), h2]
      have k1 : word_Add.f (encW a) (encW b) = some (r1, t1) := by
        unfold word_Add.f
        rw [two_yes ha hb]
        simp only [Option.bind_some, if_true, h1]
      have k2 : word_Sub.f (encW a) (encW b) = some (r2, t2) := by
        unfold word_Sub.f
        rw [two_yes ha hb]
        simp only [Option.bind_some, if_true, h2]
      have k5 : word_Less.f (encW a) (encW b) = some (decide (a < b), true) := by
        unfold word_Less.f
        rw [two_yes ha hb]
        simp
      -- the product: one pair on both sides
      have hprod : ∃ p t n q tq, word_Mul.f (encW a) (encW b) = some (p, t) ∧ monticuleref17_Mul.f 1 a b = some (n, t) ∧ monticuleref17_Int.f n = some (q, tq) ∧ (t = true → q = p) ∧ (t = false → p = 0) := by
        rw [word_mul ha hb, ref_mul 0 ha hb]
        by_cases hP : absW a * absW b > 4611686018427387904
        · rw [if_pos hP, if_pos hP]
          obtain ⟨q, tq, hq⟩ := tot 0
          exact ⟨0, false, 0, q, tq, rfl, rfl, by rw [ref_int 0 (by omega)]; exact hq, fun h => by simp at h, fun _ => rfl⟩
        · rw [if_neg hP, if_neg hP]
          by_cases hi : inW (wrap64 (a * b))
          · rw [int_yes hi, decide_eq_true hi]
            exact ⟨_, true, _, _, _, rfl, rfl, by rw [ref_int _ (wrap_in _), int_yes hi], fun _ => rfl, fun h => by simp at h⟩
          · rw [int_no hi, decide_eq_false hi]
            exact ⟨_, false, _, _, _, rfl, rfl, by rw [ref_int _ (wrap_in _), int_no hi], fun h => by simp at h, fun _ => rfl⟩
      obtain ⟨p, t, n, q, tq, k3, g3, gq, ht, hf⟩ := hprod
      by_cases hb0 : b = 0
      · subst hb0
        have k4 : word_Div.f (encW a) (encW 0) = some (0, false) := by
          unfold word_Div.f
          rw [two_yes ha hb]
          simp
        have ea : wrap64 (a + 0) = a := by unfold wrap64; omega
        have es : wrap64 (a - 0) = a := by unfold wrap64; omega
        rw [ea] at g1
        rw [es] at g2
        cases t with
        | true =>
          obtain rfl := ht rfl
          exact way_zero_true 1 a o (encW a) (encW 0) r1 r2 n q t1 t2 tq w ba bo hA hIa hIb ⟨int_yes ha⟩ ⟨int_yes hb⟩ ⟨k1⟩ ⟨k2⟩ ⟨k3⟩ ⟨k4⟩ ⟨g1⟩ ⟨g2⟩ ⟨g3⟩ ⟨gq⟩ ⟨k5⟩ ⟨e1⟩ ⟨e2⟩ ⟨e3⟩ ⟨e4⟩ ⟨e5⟩
        | false =>
          obtain rfl := hf rfl
          exact way_zero_false 1 a o (encW a) (encW 0) r1 r2 n q t1 t2 tq w ba bo hA hIa hIb ⟨int_yes ha⟩ ⟨int_yes hb⟩ ⟨k1⟩ ⟨k2⟩ ⟨k3⟩ ⟨k4⟩ ⟨g1⟩ ⟨g2⟩ ⟨g3⟩ ⟨gq⟩ ⟨k5⟩ ⟨e1⟩ ⟨e2⟩ ⟨e3⟩ ⟨e4⟩ ⟨e5⟩
      · obtain ⟨r4, t4, h4⟩ := tot (wrap64 (Int.tdiv a b))
        have g4 : monticuleref17_Int.f (wrap64 (Int.tdiv a b)) = some (r4, t4) := by rw [ref_int _ (wrap_in _), h4]
        have k4 : word_Div.f (encW a) (encW b) = some (r4, t4) := by
          unfold word_Div.f
          rw [two_yes ha hb]
          simp only [Option.bind_some, if_true]
          rw [if_neg hb0, h4]
          rfl
        cases t with
        | true =>
          obtain rfl := ht rfl
          exact way_other_true 1 a b o (encW a) (encW b) r1 r2 r4 n q t1 t2 t4 tq w ba bb bo hA hIa hIb ⟨int_yes ha⟩ ⟨int_yes hb⟩ ⟨k1⟩ ⟨k2⟩ ⟨k3⟩ ⟨k4⟩ ⟨g1⟩ ⟨g2⟩ ⟨g3⟩ ⟨gq⟩ ⟨k5⟩ ⟨e1⟩ ⟨e2⟩ ⟨e3⟩ ⟨e4⟩ ⟨e5⟩ hb0 ⟨g4⟩
        | false =>
          obtain rfl := hf rfl
          exact way_other_false 1 a b o (encW a) (encW b) r1 r2 r4 n q t1 t2 t4 tq w ba bb bo hA hIa hIb ⟨int_yes ha⟩ ⟨int_yes hb⟩ ⟨k1⟩ ⟨k2⟩ ⟨k3⟩ ⟨k4⟩ ⟨g1⟩ ⟨g2⟩ ⟨g3⟩ ⟨gq⟩ ⟨k5⟩ ⟨e1⟩ ⟨e2⟩ ⟨e3⟩ ⟨e4⟩ ⟨e5⟩ hb0 ⟨g4⟩
    · exact way_right a b o w ba bb bo hA hIa ⟨by rw [is_f, decide_eq_false hb]⟩
  · exact way_left a b o w ba bb bo hA ⟨by rw [is_f, decide_eq_false ha]⟩

end Go.Proofs.Ytbmcplnkcafikaa.Pure
