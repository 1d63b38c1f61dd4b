/- SnapOrders' plain statement: of two changes of unlike keys it does not matter which comes first. -/
import Derived.Test.YtmlebgikdegjjaaDoorPAllx2
import Derived.Test.YtmlebgikdegjjaaDoorPAllx6
import Derived.Test.YtmlebgikdegjjaaDoorPAllx7
import Derived.Test.YtmlebgikdegjjaaDoorPt
import Derived.Test.YtmlebgikdegjjaaDoorSh
import Derived.Test.YtmlebgikdegjjaaDoorSi
import Derived.Test.YtmlebgikdegjjaaDoorSj
import Derived.Test.YtmlebgikdegjjaaDoorSk
import Derived.Test.YtmlebgikdegjjaaDoorSl
import Derived.Test.YtmlebgikdegjjaaDoorSm
namespace Go.Proofs.YtmlebgikdegjjaaDoor.Pure
open Go.RowKit Go.Proofs.YtmlebgikdegjjaaDoor.PAll Go.Proofs.YtmlebgikdegjjaaDoorW.PrintWords Go.Proofs.YtmlebgikdegjjaaDoorW.PrintLast
open Go.Proofs.YtmlebgikdegjjaaDoor.Hd (newGo ord_e1 ord_e2 ord_e3 ord_e4 ord_e5 ord_bad ord_ua ord_uab ord_ub ord_tt ord_tf ord_ft ord_ff empty_)
set_option linter.unusedVariables false
abbrev SD := S25
def keyS (d : SD) : ByteArray := keyD d.f0 d.f1 d.f2 d.f3 d.f4 d.f5
def smallS (d : SD) : Prop := smallD d.f0 d.f1 d.f2 d.f3 d.f4 d.f5 = true
def smS (x y : SD) : Bool := sameD x.f0 x.f1 x.f2 x.f3 x.f4 x.f5 y.f0 y.f1 y.f2 y.f3 y.f4 y.f5
theorem smS_self (x : SD) : smS x x = true := by
  unfold smS sameD
  simp
theorem key_of {d : SD} (h : smallS d) : Ev (fun k => def_Key.f k d.f0 d.f1 d.f2 d.f3 d.f4 d.f5) (keyS d) ∧ (keyS d).size ≤ 1000000 ∧ d.f3.length ≤ 1000000 := by
  obtain ⟨a1, a2, a3, a4, a5, a6⟩ := smallD_of h
  exact ⟨Key_val _ _ _ _ _ _ (by omega) (by omega) (by omega), by have := key_size (kd := d.f0) (s := d.f2) (v := d.f3) (t := d.f5) a1 a4; unfold keyS; omega, by omega⟩
theorem key_all : ∀ (l : List SD), (∀ d ∈ l, smallS d) → ∃ K, ∀ k, K ≤ k → ∀ d ∈ l, def_Key.f k d.f0 d.f1 d.f2 d.f3 d.f4 d.f5 = some (keyS d) ∧ (keyS d).size ≤ 1000000 ∧ d.f3.length ≤ 1000000
  | [], _ => ⟨0, fun k _ p hp => by cases hp⟩
  | p :: ps, h => by
    obtain ⟨e1, e2, e3⟩ := key_of (h p (List.mem_cons_self ..))
    obtain ⟨K1, h1⟩ := ev_out e1
    obtain ⟨K2, h2⟩ := key_all ps (fun q hq => h q (List.mem_cons_of_mem _ hq))
    refine ⟨K1 + K2, fun k hk q hq => ?_⟩
    rcases List.mem_cons.1 hq with rfl | hq
    · exact ⟨h1 k (by omega), e2, e3⟩
    · exact h2 k (by omega) q hq
theorem same_row (x : SD) (hx : smallS x) : ∀ (l : List SD), ∃ K, ∀ k, K ≤ k → ∀ y ∈ l, def_Same.f k x.f0 x.f1 x.f2 x.f3 x.f4 x.f5 y.f0 y.f1 y.f2 y.f3 y.f4 y.f5 = some (smS x y)
  | [] => ⟨0, fun k _ p hp => by cases hp⟩
  | p :: ps => by
    obtain ⟨a1, a2, a3, a4, a5, a6⟩ := smallD_of hx
    obtain ⟨K1, h1⟩ := ev_out (DSame_val x.f0 x.f1 x.f2 x.f3 x.f4 x.f5 p.f0 p.f1 p.f2 p.f3 p.f4 p.f5 (by omega))
    obtain ⟨K2, h2⟩ := same_row x hx ps
    refine ⟨K1 + K2, fun k hk q hq => ?_⟩
    rcases List.mem_cons.1 hq with rfl | hq
    · exact h1 k (by omega)
    · exact h2 k (by omega) q hq
theorem same_all (L : List SD) : ∀ (l : List SD), (∀ d ∈ l, smallS d) → ∃ K, ∀ k, K ≤ k → ∀ x ∈ l, ∀ y ∈ L, def_Same.f k x.f0 x.f1 x.f2 x.f3 x.f4 x.f5 y.f0 y.f1 y.f2 y.f3 y.f4 y.f5 = some (smS x y)
  | [], _ => ⟨0, fun k _ p hp => by cases hp⟩
  | p :: ps, h => by
    obtain ⟨K1, h1⟩ := same_row p (h p (List.mem_cons_self ..)) L
    obtain ⟨K2, h2⟩ := same_all L ps (fun q hq => h q (List.mem_cons_of_mem _ hq))
    refine ⟨K1 + K2, fun k hk q hq y hy => ?_⟩
    rcases List.mem_cons.1 hq with rfl | hq
    · exact h1 k (by omega) y hy
    · exact h2 k (by omega) q hq y hy
theorem right_of {d : SD} (h : smallS d) : Ev (fun k => monticuleref07_Right.f k d.f0 d.f1 d.f2 d.f3 d.f4 d.f5) (rightD d.f0 d.f1 d.f2 d.f3 d.f4 d.f5) ∧ Ev (fun k => monticuleref07_Key.f k d.f0 d.f1 d.f2 d.f3 d.f4 d.f5) (keyS d) ∧ (rightD d.f0 d.f1 d.f2 d.f3 d.f4 d.f5 = true → 0 < (keyS d).size) := by
  obtain ⟨a1, a2, a3, a4, a5, a6⟩ := smallD_of h
  refine ⟨refRight_val _ _ _ _ _ _ (by omega) (fun x hx => by have := a6 x hx; omega) (by omega) (by omega) (by omega), refKey_val _ _ _ _ _ _ (by omega) (fun x hx => by have := a6 x hx; omega) (by omega) (by omega) (by omega), fun hr => ?_⟩
  rcases Nat.eq_zero_or_pos (keyS d).size with h0 | h0
  · have h1 : keyD d.f0 d.f1 d.f2 d.f3 d.f4 d.f5 = noB := empty_ h0
    rw [key_empty.1 h1] at hr
    cases hr
  · exact h0
theorem SnapOrders (A0 : Option Addr) (c0 : Nat) (l : List SD) (da db : Bool) (xa xb : SD) (Aa Ab : Option Addr) (ca cb : Nat) (ka kb : ByteArray) (w : World) (hr0 : Kd.C k25 w A0 l.length l) (hc0 : l.length ≤ c0) (hla : xa.f3.length ≤ ca) (hca : Kd.string.C w Aa xa.f3.length xa.f3) (hlb : xb.f3.length ≤ cb) (hcb : Kd.string.C w Ab xb.f3.length xb.f3) :
    Calls Tryd.prog 3 #[.slice A0 l.length c0, .agg #[.bool da, .int .i64 xa.f0, .string xa.f1, .string xa.f2, .slice Aa xa.f3.length ca, .string xa.f4, .string xa.f5, .string ka], .agg #[.bool db, .int .i64 xb.f0, .string xb.f1, .string xb.f2, .slice Ab xb.f3.length cb, .string xb.f4, .string xb.f5, .string kb]] w fun e w' => e = .returned (.bool true) ∧ Below w.heap.size w w' := by
  obtain ⟨bl, hbl, hfl⟩ := few07_tot l 10 (by decide)
  obtain ⟨K1, h1⟩ := ev_out hbl
  obtain ⟨K2, h2⟩ := ev_out (Small_val xa.f0 xa.f1 xa.f2 xa.f3 xa.f4 xa.f5)
  obtain ⟨K3, h3⟩ := ev_out (Small_val xb.f0 xb.f1 xb.f2 xb.f3 xb.f4 xb.f5)
  have g1 := h1 (K1 + K2 + K3) (by omega)
  have g2 := h2 (K1 + K2 + K3) (by omega)
  have g3 := h3 (K1 + K2 + K3) (by omega)
  cases bl with
  | false => exact ord_e1 _ keyS smS A0 c0 l da db xa xb Aa Ab ca cb ka kb w hr0 hc0 hla hca hlb hcb g1 _ _ g2 g3
  | true =>
    cases ba : smallD xa.f0 xa.f1 xa.f2 xa.f3 xa.f4 xa.f5 with
    | false =>
      rw [ba] at g2
      exact ord_e2 _ keyS smS A0 c0 l da db xa xb Aa Ab ca cb ka kb w hr0 hc0 hla hca hlb hcb g1 _ g2 g3
    | true =>
      rw [ba] at g2 h2
      cases bb : smallD xb.f0 xb.f1 xb.f2 xb.f3 xb.f4 xb.f5 with
      | false =>
        rw [bb] at g3
        exact ord_e3 _ keyS smS A0 c0 l da db xa xb Aa Ab ca cb ka kb w hr0 hc0 hla hca hlb hcb g1 g2 g3
      | true =>
        rw [bb] at g3 h3
        by_cases hka : ka.size ≤ 700
        case neg => exact ord_e4 _ keyS smS A0 c0 l da db xa xb Aa Ab ca cb ka kb w hr0 hc0 hla hca hlb hcb g1 g2 g3 hka
        case pos =>
          by_cases hkb : kb.size ≤ 700
          case neg => exact ord_e5 _ keyS smS A0 c0 l da db xa xb Aa Ab ca cb ka kb w hr0 hc0 hla hca hlb hcb g1 g2 g3 hka hkb
          case pos =>
            obtain ⟨hln, hsl⟩ := hfl rfl
            obtain ⟨K4, h4⟩ := key_all l hsl
            obtain ⟨ea1, ea2, ea3⟩ := key_of (d := xa) ba
            obtain ⟨eb1, eb2, eb3⟩ := key_of (d := xb) bb
            obtain ⟨ra1, ra2, ra3⟩ := right_of (d := xa) ba
            obtain ⟨rb1, rb2, rb3⟩ := right_of (d := xb) bb
            obtain ⟨K5, h5⟩ := ev_out ea1
            obtain ⟨K6, h6⟩ := ev_out eb1
            obtain ⟨K7, h7⟩ := ev_out ra1
            obtain ⟨K8, h8⟩ := ev_out rb1
            obtain ⟨K9, h9⟩ := ev_out ra2
            obtain ⟨K10, h10⟩ := ev_out rb2
            obtain ⟨K11, h11⟩ := same_all (xa :: xb :: l) (xa :: xb :: l) (fun d hd => by
              rcases List.mem_cons.1 hd with rfl | hd
              · exact ba
              · rcases List.mem_cons.1 hd with rfl | hd
                · exact bb
                · exact hsl d hd)
            obtain ⟨k, hk⟩ : ∃ k, k = K1 + K2 + K3 + K4 + K5 + K6 + K7 + K8 + K9 + K10 + K11 := ⟨_, rfl⟩
            have g1 := h1 k (by omega)
            have g2 := h2 k (by omega)
            have g3 := h3 k (by omega)
            have g4 := h4 k (by omega)
            have g7 := h7 k (by omega)
            have g8 := h8 k (by omega)
            have hmem : ∀ x, (x ∈ l ∨ x = xa ∨ x = xb) → x ∈ xa :: xb :: l := fun x hx => by
              rcases hx with hx | rfl | rfl
              · exact List.mem_cons_of_mem _ (List.mem_cons_of_mem _ hx)
              · exact List.mem_cons_self ..
              · exact List.mem_cons_of_mem _ (List.mem_cons_self ..)
            have hsm : ∀ x y, (x ∈ l ∨ x = xa ∨ x = xb) → (y ∈ l ∨ y = xa ∨ y = xb) → def_Same.f k x.f0 x.f1 x.f2 x.f3 x.f4 x.f5 y.f0 y.f1 y.f2 y.f3 y.f4 y.f5 = some (smS x y) := fun x y hx hy => h11 k (by omega) x (hmem x hx) y (hmem y hy)
            have hself : ∀ x, (x ∈ l ∨ x = xa ∨ x = xb) → smS x x = true := fun x _ => smS_self x
            obtain ⟨M0, en, hng⟩ : ∃ M0 en, newGo keyS l (.map []) = (M0, en) := ⟨_, _, rfl⟩
            by_cases hen : en = 0
            case neg => exact ord_bad k keyS smS A0 c0 l da db xa xb Aa Ab ca cb ka kb w hr0 hc0 hla hca hlb hcb g1 g2 g3 hka hkb hln g4 M0 en hng hen
            case pos =>
              subst hen
              have fa : rightD xa.f0 xa.f1 xa.f2 xa.f3 xa.f4 xa.f5 = true → _ := fun h => And.intro (h9 k (by omega)) (And.intro (h5 k (by omega)) (And.intro (ra3 h) (And.intro ea2 ea3)))
              have fb : rightD xb.f0 xb.f1 xb.f2 xb.f3 xb.f4 xb.f5 = true → _ := fun h => And.intro (h10 k (by omega)) (And.intro (h6 k (by omega)) (And.intro (rb3 h) (And.intro eb2 eb3)))
              cases hra : rightD xa.f0 xa.f1 xa.f2 xa.f3 xa.f4 xa.f5 with
              | false =>
                rw [hra] at g7
                cases da with
                | false => exact ord_ua k keyS smS A0 c0 l db xa xb Aa Ab ca cb ka kb w hr0 hc0 hla hca hlb hcb g1 g2 g3 hka hkb hln g4 M0 hng g7
                | true =>
                  cases db with
                  | true => exact ord_tt k keyS smS A0 c0 l xa xb Aa Ab ca cb ka kb w hr0 hc0 hla hca hlb hcb g1 g2 g3 hka hkb hln g4 M0 hng hsm hself
                  | false =>
                    cases hrb : rightD xb.f0 xb.f1 xb.f2 xb.f3 xb.f4 xb.f5 with
                    | false =>
                      rw [hrb] at g8
                      exact ord_ub k keyS smS A0 c0 l xa xb Aa Ab ca cb ka kb w hr0 hc0 hla hca hlb hcb g1 g2 g3 hka hkb hln g4 M0 hng g8
                    | true =>
                      rw [hrb] at g8
                      exact ord_tf k keyS smS A0 c0 l xa xb Aa Ab ca cb ka kb w hr0 hc0 hla hca hlb hcb g1 g2 g3 hka hkb hln g4 M0 hng g8 (fb hrb) hsm hself
              | true =>
                rw [hra] at g7
                cases hrb : rightD xb.f0 xb.f1 xb.f2 xb.f3 xb.f4 xb.f5 with
                | false =>
                  rw [hrb] at g8
                  cases da with
                  | true =>
                    cases db with
                    | true => exact ord_tt k keyS smS A0 c0 l xa xb Aa Ab ca cb ka kb w hr0 hc0 hla hca hlb hcb g1 g2 g3 hka hkb hln g4 M0 hng hsm hself
                    | false => exact ord_ub k keyS smS A0 c0 l xa xb Aa Ab ca cb ka kb w hr0 hc0 hla hca hlb hcb g1 g2 g3 hka hkb hln g4 M0 hng g8
                  | false =>
                    cases db with
                    | true => exact ord_ft k keyS smS A0 c0 l xa xb Aa Ab ca cb ka kb w hr0 hc0 hla hca hlb hcb g1 g2 g3 hka hkb hln g4 M0 hng g7 (fa hra) hsm hself
                    | false => exact ord_uab k keyS smS A0 c0 l xa xb Aa Ab ca cb ka kb w hr0 hc0 hla hca hlb hcb g1 g2 g3 hka hkb hln g4 M0 hng g7 g8
                | true =>
                  rw [hrb] at g8
                  cases da with
                  | true =>
                    cases db with
                    | true => exact ord_tt k keyS smS A0 c0 l xa xb Aa Ab ca cb ka kb w hr0 hc0 hla hca hlb hcb g1 g2 g3 hka hkb hln g4 M0 hng hsm hself
                    | false => exact ord_tf k keyS smS A0 c0 l xa xb Aa Ab ca cb ka kb w hr0 hc0 hla hca hlb hcb g1 g2 g3 hka hkb hln g4 M0 hng g8 (fb hrb) hsm hself
                  | false =>
                    cases db with
                    | true => exact ord_ft k keyS smS A0 c0 l xa xb Aa Ab ca cb ka kb w hr0 hc0 hla hca hlb hcb g1 g2 g3 hka hkb hln g4 M0 hng g7 (fa hra) hsm hself
                    | false => exact ord_ff k keyS smS A0 c0 l xa xb Aa Ab ca cb ka kb w hr0 hc0 hla hca hlb hcb g1 g2 g3 hka hkb hln g4 M0 hng g7 (fa hra) g8 (fb hrb) hsm hself
end Go.Proofs.YtmlebgikdegjjaaDoor.Pure
