/- become.One's second closure: all references go elsewhere. -/
import Derived.Test.YtiokegmpooildaaTu
import Derived.Test.YtiokegmpooildaaSt
namespace Go.Proofs.Ytiokegmpooildaa.Hp
open Go.RowKit Go.Proofs.YtiokegmpooildaaW.PrintWords Go.Proofs.YtiokegmpooildaaW.PrintLast Go.Proofs.YtiokegmpooildaaW.PrintMore Go.Proofs.Ytiokegmpooildaa.PAll
set_option linter.unusedVariables false
set_option linter.unusedSimpArgs false

section
variable {P : Program} {ops : Array Oper} {Q : Exit → Act → World → Prop}
/-- A closure's call, in a region that draws. -/
theorem goesF_ {oi : Oper} {N : Option Tmp} {a : Act} {w : World} {K : Act → World → Prop} {f : FuncId} {fn : Func} {q : Operand} {as_ : Array Operand} {ts : Array TypeId} {fr : Array Value} (hf : P.funcs[f]? = some fn) (hname : (fn.name == "runtime.NumGoroutine") = false) (hb : fn.body.isSome = true) (args : Array Value)
    (hw : Region.wanted oi (yielded ops a.tmps) = true) (hN : oi.dst = N) (hop : oi.op = .call { callee := .value q, args := as_, argTypes := ts }) (hq : a.eval q = .func (.func f) #[] fr) (hargs : as_.map a.eval ++ fr = args)
    (h : Calls P f args w fun e w' => ∃ v, e = .returned v ∧ K (a.put N v) w') : if Region.wanted oi (yielded ops a.tmps) = true then Oper.wp P oi a w K Q else K (a.put N undef) w := by
  refine call_ f args hw hN ?_ h
  have he := enters_ hf hname hb args w
  unfold execOp
  simp [hop, resolve, Deferred.ofValue, invoke, hq, hargs, he]
end
def turn1 (m : Int → Option Int) (a : Int) : Int := (m a).getD a
def turnO (m : Int → Option Int) (x : S53) : S53 := ⟨turn1 m x.f0, x.f1.map (turn1 m), x.f2⟩
/-- Objects, the first i of them turned. -/
def turnA (m : Int → Option Int) (l : List S53) (i : Nat) : List S53 := (l.take i).map (turnO m) ++ l.drop i
theorem turnA_length (m : Int → Option Int) (l : List S53) (i : Nat) : (turnA m l i).length = l.length := by
  unfold turnA
  rw [List.length_append, List.length_map, List.length_take, List.length_drop]
  omega
theorem turnA_at (m : Int → Option Int) (l : List S53) (x : Int) (h0 : 0 ≤ x) (h1 : x < (l.length : Int)) : rd_T53 (turnA m l x.toNat) x = rd_T53 l x := by
  unfold turnA rd_T53
  rw [List.getD_eq_getElem?_getD, List.getD_eq_getElem?_getD, List.getElem?_append_right (by rw [List.length_map, List.length_take]; omega), List.getElem?_drop, List.length_map, List.length_take]
  congr 2
  omega
theorem turnA_next (m : Int → Option Int) (l : List S53) (x : Int) (h0 : 0 ≤ x) (h1 : x < (l.length : Int)) : (turnA m l x.toNat).set x.toNat (turnO m (rd_T53 l x)) = turnA m l (x + 1).toNat := by
  apply List.ext_getElem?
  intro j
  have e : (x + 1).toNat = x.toNat + 1 := by omega
  have hx : x.toNat < l.length := by omega
  unfold turnA rd_T53
  rw [e, List.getElem?_set, List.getD_eq_getElem?_getD, List.getElem?_eq_getElem hx, List.getElem?_append, List.getElem?_append]
  simp only [List.length_map, List.length_take, List.length_append, List.length_drop, List.getElem?_map, List.getElem?_take, List.getElem?_drop]
  by_cases h2 : x.toNat = j
  · subst h2
    rw [if_pos rfl, if_pos (by omega), if_pos (by omega), if_pos (by omega), List.getElem?_eq_getElem hx]
    rfl
  · rw [if_neg h2]
    by_cases h3 : j < x.toNat
    · rw [if_pos (by omega), if_pos (by omega), if_pos (by omega), if_pos (by omega)]
    · rw [if_neg (by omega), if_neg (by omega)]
      congr 1
      omega
theorem S_head {W : World} {base g n cap : Nat} {ok : Nat → Prop} {xs : List S53} (h : Kd.S k53 53 W base ok (.slice (some ⟨g, 0, none⟩) n cap) xs) (i : Int) (h0 : 0 ≤ i) (h1 : i < n) :
    ∃ A1 c1, W.cell? ⟨g, i.toNat * 3 + 1, none⟩ = some (.slice A1 (rd_T53 xs i).f1.length c1) := by
  obtain ⟨oki, c, hcl, hM, hcc, hfr, hoki, hH⟩ := Kd.S_elem h z53 i h0 h1
  obtain ⟨v1, v2, rfl, g1, g2⟩ := k53_openM hM
  obtain ⟨A1, c1, rfl⟩ := Kd.R_slice g1
  exact ⟨A1, c1, hcc 1 _ rfl⟩
/-- Words, the first y of them turned. -/
def turnS (m : Int → Option Int) (f : List Int) (y : Nat) : List Int := (f.take y).map (turn1 m) ++ f.drop y
theorem turnS_length (m : Int → Option Int) (f : List Int) (y : Nat) : (turnS m f y).length = f.length := by
  unfold turnS
  rw [List.length_append, List.length_map, List.length_take, List.length_drop]
  omega
theorem turnS_at (m : Int → Option Int) (l : List Int) (x : Int) (h0 : 0 ≤ x) (h1 : x < (l.length : Int)) : rd (turnS m l x.toNat) x = rd l x := by
  unfold turnS rd
  rw [List.getD_eq_getElem?_getD, List.getD_eq_getElem?_getD, List.getElem?_append_right (by rw [List.length_map, List.length_take]; omega), List.getElem?_drop, List.length_map, List.length_take]
  congr 2
  omega
theorem turnS_next (m : Int → Option Int) (l : List Int) (x : Int) (h0 : 0 ≤ x) (h1 : x < (l.length : Int)) : (turnS m l x.toNat).set x.toNat (turn1 m (rd l x)) = turnS m l (x + 1).toNat := by
  apply List.ext_getElem?
  intro j
  have e : (x + 1).toNat = x.toNat + 1 := by omega
  have hx : x.toNat < l.length := by omega
  unfold turnS rd
  rw [e, List.getElem?_set, List.getD_eq_getElem?_getD, List.getElem?_eq_getElem hx, List.getElem?_append, List.getElem?_append]
  simp only [List.length_map, List.length_take, List.length_append, List.length_drop, List.getElem?_map, List.getElem?_take, List.getElem?_drop]
  by_cases h2 : x.toNat = j
  · subst h2
    rw [if_pos rfl, if_pos (by omega), if_pos (by omega), if_pos (by omega), List.getElem?_eq_getElem hx]
    rfl
  · rw [if_neg h2]
    by_cases h3 : j < x.toNat
    · rw [if_pos (by omega), if_pos (by omega), if_pos (by omega), if_pos (by omega)]
    · rw [if_neg (by omega), if_neg (by omega)]
      congr 1
      omega
theorem turn1_W {m : Int → Option Int} {a : Int} (hm : ∀ a t, W64 a → m a = some t → W64 t) (ha : W64 a) : W64 (turn1 m a) := by
  unfold turn1
  cases h : m a with
  | none => exact ha
  | some t => exact hm a t ha h
def od.T3 : Bool × List (List Nat × List Nat) := (true, [([], []), ([], []), ([], []), ([], []), ([], []), ([3, 4], [3, 4]), ([5], [5]), ([6], [6]), ([2, 7], [2, 7]), ([0, 1, 0, 1, 2, 3, 4, 5, 6, 7, 8], [0, 1]), ([9, 0, 1, 2, 3, 4, 5, 6, 7, 8], [9]), ([10, 8, 8, 0, 1, 2, 3, 4, 5, 6, 7, 8], [8, 10])])
def od.B3 : List Nat := [0, 0, 0, 0, 0, 24, 56, 120, 252, 511, 1023, 2047]
theorem od.tab3 : rtab .any (opsOf Try.f63 3) = od.T3 := by kernel_rfl
theorem od.bits3 : waitsOk od.T3.2 od.B3 = true := by kernel_rfl
def od.T7 : Bool × List (List Nat × List Nat) := (true, [([], []), ([], []), ([0, 1], [0, 1]), ([2], [2]), ([3], [3]), ([], []), ([], []), ([], []), ([6, 7], [6, 7]), ([4, 5, 0, 1, 2, 3, 4, 5, 6, 7, 8], [4, 5]), ([9, 8, 8, 0, 1, 2, 3, 4, 5, 6, 7, 8], [8, 9])])
def od.B7 : List Nat := [0, 0, 3, 7, 15, 0, 0, 0, 192, 511, 1023]
theorem od.tab7 : rtab .any (opsOf Try.f63 7) = od.T7 := by kernel_rfl
theorem od.bits7 : waitsOk od.T7.2 od.B7 = true := by kernel_rfl

theorem set_self53 (l : List S53) (x : Int) (h0 : 0 ≤ x) (h1 : x < (l.length : Int)) : l.set x.toNat (rd_T53 l x) = l := by
  unfold rd_T53
  rw [List.getD_eq_getElem?_getD, List.getElem?_eq_getElem (by omega)]
  exact List.set_getElem_self (by omega)
set_option maxHeartbeats 16000000 in
set_option maxRecDepth 100000 in
theorem one_do (ht hm b n : Nat) (m : Int → Option Int) (B : Nat) (v : Value) (l : List S53) (w0 w : World) (hS : Kd.S k53 53 w B (fun _ => True) v l) (hct : w0.cell? ⟨ht, 0, none⟩ = some (.func (.func 62) #[] #[.pointer (some ⟨hm, 0, none⟩)])) (hcm : w0.cell? ⟨hm, 0, none⟩ = some (.map (some b))) (hM : MapW w0 b n m)
    (hB0 : Below w0.heap.size w0 w) (hle : w0.heap.size ≤ B) (hs : SmallL l) (hW : WordsL l) :
    Calls Try.prog 63 #[v, .pointer (some ⟨ht, 0, none⟩)] w fun e w' => e = .returned (.tuple #[]) ∧ Kd.S k53 53 w' B (fun _ => True) v (turnA m l l.length) ∧ Below w0.heap.size w0 w' := by
  have hu53 := Try.underlying53
  have HCT := Aside0.mk hct
  have HCM := Aside0.mk hcm
  have HM := Aside0.mk hM
  have HB := Aside0.mk hB0
  have HLE := Aside0.mk hle
  have HO := Aside0.mk hS
  have HS := Aside0.mk hs
  have HW := Aside0.mk hW
  have hl0 : l.length ≤ 5000 := hs.1
  obtain ⟨A, c, ev⟩ := Kd.S_slice hS
  subst ev
  clear hct hcm hM hB0 hle hS hs hW
  go_enter Try.func63, Try.ntmps63
  go_wp2_with (fail)
  go_loopg [8] l.length (fun kq v8 w' => ∃ x : Int, v8 = .int .i64 x ∧ 0 ≤ x ∧ x ≤ l.length ∧ Aside0 ((kq : Int) + x = l.length) ∧ Aside0 (Kd.S k53 53 w' B (fun _ => True) (.slice A l.length c) (turnA m l x.toNat)) ∧ Aside0 (Below w0.heap.size w0 w'))
  case atStart => exact ⟨0, rfl, by omega, by omega, ⟨by simp⟩, ⟨by have e_ : turnA m l (0 : Int).toNat = l := (by unfold turnA; simp); rw [e_]; exact HO.out⟩, HB⟩
  case round =>
    clear HO HB
    obtain ⟨x, rfl, p0, p1, HK, HO, HB⟩ := hrel
    by_cases hlt : x < (l.length : Int)
    · have c3b0 : decide (x < (l.length : Int)) = true := decide_eq_true hlt
      have HWx := Aside0.mk (HW.out _ (rdT_mem p0 hlt))
      have HEL := Aside0.mk (turnA_at m l x p0 hlt)
      have HNX := Aside0.mk (turnA_next m l x p0 hlt)
      obtain ⟨xs, hxs⟩ : ∃ xs, xs = turnA m l x.toNat := ⟨_, rfl⟩
      have HXL := Aside0.mk (show xs.length = l.length by rw [hxs]; exact turnA_length m l x.toNat)
      rw [← hxs] at HO HEL HNX
      clear hxs
      obtain ⟨g, cc, ev, hgB, _, _⟩ := Kd.S_form HO.out (by rw [HXL.out]; omega)
      rw [HXL.out] at ev
      injection ev with ea eb ec
      subst ea ec
      have GB := Aside0.mk hgB
      have hnx : x < ((l.length : Nat) : Int) := hlt
      have hcl := Aside0.mk (show wr.drew.cell? ⟨g, x.toNat * 3, none⟩ = some (.int .u64 (rd_T53 l x).f0) from by have := (S_class (Kd.S_drew HO.out) x p0 hnx 0).1; rw [HEL.out] at this; exact this)
      have q0 : (0 ≤ x) = True := eq_true p0
      have q1 : (x < (l.length : Int)) = True := eq_true hlt
      clear hgB eb
      go_wp2_with (fail)
      refine start_ (n := 12) (S := fun w' => w'.cell? ⟨ht, 0, none⟩ = some (.func (.func 62) #[] #[.pointer (some ⟨hm, 0, none⟩)]) ∧ w'.cell? ⟨g, x.toNat * 3, none⟩ = some (.int .u64 (rd_T53 l x).f0)) (ds := [11]) #[false, false, false, false, false, false, false, false, false, false, false, false] (by kernel_rfl) rfl rfl ⟨((below_drew1 HB.out).cell (World.block_lt_of_cell? w0 _ HCT.out)).trans HCT.out, hcl.out⟩ (fun hHeld => ?_); refine with_tabW od.tab3 od.bits3 (fun HT_ HW_ => ?_)
      have n0_ := Aside0.mk (Kd.S_drew HO.out)
      have n1_ := Aside0.mk (below_drew1 HB.out)
      generalize hw_ : wr.drew = w2 at n0_ n1_ hHeld ⊢
      clear hw_ HO HB
      have HO := n0_
      have HB := n1_
      clear n0_ n1_
      refine pure_ (i := 0) (N := some 11) (v := ?_) (a' := ?_) #[true, false, false, false, false, false, false, false, false, false, false, false] rfl rfl (any_of HT_.out (by kernel_rfl)) (fun _ _ _ h => h) (Or.inl ⟨by rfl, ?_⟩) ?_ ?_
      rotate_left
      · intro w'
        go_simp
        with_reducible rfl
      rotate_left
      · simp only [Act.put, List.setIfInBounds_toArray, List.set_cons_zero, List.set_cons_succ, i64_w, i32_w]
        rfl
      refine pure_ (i := 1) (N := some 12) (v := ?_) (a' := ?_) #[true, true, false, false, false, false, false, false, false, false, false, false] rfl rfl (any_of HT_.out (by kernel_rfl)) (fun _ _ _ h => h) (Or.inl ⟨by rfl, ?_⟩) ?_ ?_
      rotate_left
      · intro w'
        go_simp
        with_reducible rfl
      rotate_left
      · simp only [Act.put, List.setIfInBounds_toArray, List.set_cons_zero, List.set_cons_succ, i64_w, i32_w]
        rfl
      refine pure_ (i := 3) (N := some 14) (v := ?_) (a' := ?_) #[true, true, false, true, false, false, false, false, false, false, false, false] rfl rfl (any_of HT_.out (by kernel_rfl)) (fun _ _ _ h => h) (Or.inl ⟨by rfl, ?_⟩) ?_ ?_
      rotate_left
      · intro w'
        go_simp
        with_reducible rfl
      rotate_left
      · simp only [Act.put, List.setIfInBounds_toArray, List.set_cons_zero, List.set_cons_succ, i64_w, i32_w]
        rfl
      refine pure_ (i := 4) (N := some 15) (v := ?_) (a' := ?_) #[true, true, false, true, true, false, false, false, false, false, false, false] rfl rfl (any_of HT_.out (by kernel_rfl)) (fun _ _ _ h => h) (Or.inl ⟨by rfl, ?_⟩) ?_ ?_
      rotate_left
      · intro w'
        go_simp
        with_reducible rfl
      rotate_left
      · simp only [Act.put, List.setIfInBounds_toArray, List.set_cons_zero, List.set_cons_succ, i64_w, i32_w]
        rfl
      refine pure_ (i := 5) (N := some 16) (v := ?_) (a' := ?_) #[true, true, false, true, true, true, false, false, false, false, false, false] rfl rfl (any_of HT_.out (by kernel_rfl)) (fun _ _ _ h => h) (Or.inl ⟨by rfl, ?_⟩) ?_ ?_
      rotate_left
      · intro w'
        go_simp
        with_reducible rfl
      rotate_left
      · simp only [Act.put, List.setIfInBounds_toArray, List.set_cons_zero, List.set_cons_succ, i64_w, i32_w]
        rfl
      refine pure_ (i := 6) (N := some 17) (v := ?_) (a' := ?_) #[true, true, false, true, true, true, true, false, false, false, false, false] rfl rfl (any_of HT_.out (by kernel_rfl)) (fun _ _ _ h => h) (Or.inl ⟨by rfl, ?_⟩) ?_ ?_
      rotate_left
      · intro w'
        go_simp
        with_reducible rfl
      rotate_left
      · simp only [Act.put, List.setIfInBounds_toArray, List.set_cons_zero, List.set_cons_succ, i64_w, i32_w]
        rfl
      refine take_ (i := 2) (N := some 13) (v := ?_) (a' := ?_) #[true, true, true, true, true, true, true, false, false, false, false, false] rfl rfl (take_ofW HT_.out HW_.out (by kernel_rfl)) (fun _ _ _ h => h) (Or.inl ⟨by rfl, ?_⟩) hHeld ?_ ?_
      rotate_left
      · rintro w' ⟨s0, s1⟩
        go_simp
        with_reducible rfl
      rotate_left
      · simp only [Act.put, List.setIfInBounds_toArray, List.set_cons_zero, List.set_cons_succ, i64_w, i32_w]
        rfl
      refine take_ (i := 7) (N := some 18) (v := ?_) (a' := ?_) #[true, true, true, true, true, true, true, true, false, false, false, false] rfl rfl (take_ofW HT_.out HW_.out (by kernel_rfl)) (fun _ _ _ h => h) (Or.inl ⟨by rfl, ?_⟩) hHeld ?_ ?_
      rotate_left
      · rintro w' ⟨s0, s1⟩
        go_simp
        with_reducible rfl
      rotate_left
      · simp only [Act.put, List.setIfInBounds_toArray, List.set_cons_zero, List.set_cons_succ, i64_w, i32_w]
        rfl
      refine one_ (i := 8) (N := some 19) #[true, true, true, true, true, true, true, true, true, false, false, false] rfl rfl (one_of HT_.out (by kernel_rfl)) (by decide) (fun K hK => ?_)
      refine goesF_ Try.func62 (by kernel_rfl) rfl #[.int .u64 (rd_T53 l x).f0, .pointer (some ⟨hm, 0, none⟩)] (by rfl) rfl rfl rfl (by (try simp only [List.map_toArray, List.map_cons, List.map_nil, List.append_toArray, List.cons_append, List.nil_append]); first | done | rfl) ?_
      with_reducible refine (turn_func hm b n m (rd_T53 l x).f0 _ ((HB.out.cell (World.block_lt_of_cell? w0 _ HCM.out)).trans HCM.out) (HM.out.below HB.out) HWx.out.1).mono ?_
      rintro e w9 ⟨rfl, ⟨nd, rfl⟩⟩
      refine ⟨_, rfl, ?_⟩
      refine hK.out _ _ ⟨(HB.out.cell (World.block_lt_of_cell? w0 _ HCT.out)).trans HCT.out, hHeld.2⟩ (fun hHeld => ?_)
      clear hK K
      refine norm_ (a' := ?_) ?_ ?_
      rotate_left
      · show Act.put _ (some 19) _ = _
        simp only [Act.put, List.setIfInBounds_toArray, List.set_cons_zero, List.set_cons_succ, i64_w, i32_w]
        rfl
      have n0_ := Aside0.mk (Kd.S_drewN HO.out nd)
      have n1_ := Aside0.mk (pw_below_drewN HB.out nd)
      generalize hw_ : w2.drewN nd = w3 at n0_ n1_ hHeld ⊢
      clear hw_ HO HB
      have HO := n0_
      have HB := n1_
      clear n0_ n1_
      obtain ⟨hsu, hfu, hS4, hG4⟩ := S_class HO.out x p0 hnx (turn1 m (rd_T53 l x).f0)
      refine pure_ (i := 9) (N := some 20) (v := ?_) (a' := ?_) #[true, true, true, true, true, true, true, true, true, true, false, false] rfl rfl (any_of HT_.out (by kernel_rfl)) (fun _ _ _ h => h) (Or.inl ⟨by rfl, ?_⟩) ?_ ?_
      rotate_left
      · intro w'
        go_simp
        with_reducible rfl
      rotate_left
      · simp only [Act.put, List.setIfInBounds_toArray, List.set_cons_zero, List.set_cons_succ, i64_w, i32_w]
        rfl
      refine pure_ (i := 10) (N := some 21) (v := ?_) (a' := ?_) #[true, true, true, true, true, true, true, true, true, true, true, false] rfl rfl (any_of HT_.out (by kernel_rfl)) (fun _ _ _ h => h) (Or.inl ⟨by rfl, ?_⟩) ?_ ?_
      rotate_left
      · intro w'
        go_simp
        with_reducible rfl
      rotate_left
      · simp only [Act.put, List.setIfInBounds_toArray, List.set_cons_zero, List.set_cons_succ, i64_w, i32_w]
        rfl
      refine last_ (i := 11) (N := none) #[true, true, true, true, true, true, true, true, true, true, true, true] rfl rfl (one_of HT_.out (by kernel_rfl)) (by decide) (fun K hK => ?_)
      refine skip_ (w1 := ?_) (by rfl) rfl ?_ ?_
      rotate_left
      · go_simp
        rfl
      refine hK.out _ _ ?_
      clear hK K
      refine done_ (done_of HT_.out (by kernel_rfl)) ?_
      obtain ⟨ys, hys⟩ : ∃ ys, ys = xs.set x.toNat ⟨(turn1 m (rd_T53 l x).f0), (rd_T53 xs x).f1, (rd_T53 xs x).f2⟩ := ⟨_, rfl⟩
      rw [← hys] at hS4
      have n0_ := Aside0.mk (show Kd.S k53 53 (w3.setCell ⟨g, x.toNat * 3, none⟩ (.int .u64 ((m (rd_T53 l x).f0).getD (rd_T53 l x).f0))) B (fun _ => True) (.slice (some ⟨g, 0, none⟩) l.length c) ys from hS4)
      have n1_ := Aside0.mk (show Below w0.heap.size w0 (w3.setCell ⟨g, x.toNat * 3, none⟩ (.int .u64 ((m (rd_T53 l x).f0).getD (rd_T53 l x).f0))) from HB.out.grown hG4 HB.out.size (fun k hk => by have := Option.some.inj hk; have := GB.out; have := HLE.out; omega))
      generalize hw_ : (w3.setCell ⟨g, x.toNat * 3, none⟩ (.int .u64 ((m (rd_T53 l x).f0).getD (rd_T53 l x).f0))) = w4 at n0_ n1_ ⊢
      clear hw_ HO HB
      have HO := n0_
      have HB := n1_
      clear n0_ n1_
      clear hS4 hG4 hsu hfu hHeld HT_ HW_ hcl
      have HYX := Aside0.mk (show rd_T53 ys x = ⟨(turn1 m (rd_T53 l x).f0), (rd_T53 l x).f1, (rd_T53 l x).f2⟩ by rw [hys, HEL.out]; unfold rd_T53; rw [List.getD_eq_getElem?_getD, List.getElem?_set_self (by rw [HXL.out]; omega)]; rfl)
      have HYN := Aside0.mk (show ys.set x.toNat (turnO m (rd_T53 l x)) = turnA m l (x + 1).toNat by rw [hys, List.set_set]; exact HNX.out)
      clear hys HNX HEL
      have HYL := Aside0.mk (show ys.length = l.length by have h_ := (Kd.S_reads' HO.out).1; exact h_.symm)
      obtain ⟨A1, c1, hhd⟩ := S_head HO.out x p0 hnx
      rw [HYX.out] at hhd
      have hfb := (HS.out.at_ x p0 hlt).1
      try clear hcl
      obtain ⟨f1, hf1⟩ : ∃ f1, f1 = (rd_T53 l x).f1 := ⟨_, rfl⟩
      obtain ⟨tc, htc⟩ : ∃ tc, tc = (turn1 m (rd_T53 l x).f0) := ⟨_, rfl⟩
      obtain ⟨f2, hf2⟩ : ∃ f2, f2 = (rd_T53 l x).f2 := ⟨_, rfl⟩
      have HF1 := Aside0.mk hf1
      have HTC := Aside0.mk htc
      have HF2 := Aside0.mk hf2
      rw [← hf1] at hhd hfb
      rw [← hf1, ← htc, ← hf2] at HYX
      clear hf1 htc hf2
      obtain ⟨wo, rfl⟩ : ∃ wo : World, wo = w4 := ⟨_, rfl⟩
      obtain ⟨ko, hko⟩ : ∃ ko : Nat, ko = gk := ⟨_, rfl⟩
      go_wp2_with (fail)
      go_loopg [28] f1.length (fun kq v28 w' => ∃ y : Int, v28 = .int .i64 y ∧ 0 ≤ y ∧ y ≤ f1.length ∧ Aside0 ((kq : Int) + y = f1.length) ∧ Aside0 (Kd.S k53 53 w' B (fun _ => True) (.slice (some ⟨g, 0, none⟩) l.length c) (ys.set x.toNat ⟨tc, turnS m f1 y.toNat, f2⟩)) ∧ Aside0 (w'.cell? ⟨g, x.toNat * 3 + 1, none⟩ = some (.slice A1 f1.length c1)) ∧ Aside0 (Below w0.heap.size w0 w'))
      case atStart => exact ⟨0, rfl, by omega, by omega, ⟨by simp⟩, ⟨by have e_ : ys.set x.toNat ⟨tc, turnS m f1 (0 : Int).toNat, f2⟩ = ys := (by rw [show turnS m f1 (0 : Int).toNat = f1 by unfold turnS; simp, ← HYX.out]; exact set_self53 ys x p0 (by rw [HYL.out]; exact hlt)); rw [e_]; exact HO.out⟩, ⟨hhd⟩, HB⟩
      case round =>
        clear HO HB hhd
        obtain ⟨y, rfl, y0, y1, HKy, HO, HHD, HB⟩ := hrel
        by_cases hly : y < (f1.length : Int)
        · have d3b0 : decide (y < (f1.length : Int)) = true := decide_eq_true hly
          obtain ⟨ts, hts⟩ : ∃ ts, ts = turnS m f1 y.toNat := ⟨_, rfl⟩
          have HTL := Aside0.mk (show ts.length = f1.length by rw [hts]; exact turnS_length m f1 y.toNat)
          have HTA := Aside0.mk (show rd ts y = rd f1 y by rw [hts]; exact turnS_at m f1 y y0 hly)
          have HTN := Aside0.mk (show ts.set y.toNat (turn1 m (rd f1 y)) = turnS m f1 (y + 1).toNat by rw [hts]; exact turnS_next m f1 y y0 hly)
          rw [← hts] at HO
          clear hts
          obtain ⟨cur, hcur⟩ : ∃ cur, cur = ys.set x.toNat (⟨tc, ts, f2⟩ : S53) := ⟨_, rfl⟩
          have HCX := Aside0.mk (show rd_T53 cur x = ⟨tc, ts, f2⟩ by rw [hcur]; unfold rd_T53; rw [List.getD_eq_getElem?_getD, List.getElem?_set_self (by rw [HYL.out]; omega)]; rfl)
          have HCN := Aside0.mk (show cur.set x.toNat (⟨tc, ts.set y.toNat (turn1 m (rd f1 y)), f2⟩ : S53) = ys.set x.toNat ⟨tc, turnS m f1 (y + 1).toNat, f2⟩ by rw [hcur, List.set_set, HTN.out])
          rw [← hcur] at HO
          clear hcur
          have HIN := Aside0.mk (show y < ((rd_T53 cur x).f1.length : Int) by rw [HCX.out]; show y < (ts.length : Int); rw [HTL.out]; exact hly)
          have HWy := Aside0.mk (HWx.out.2 (rd f1 y) (by rw [← HF1.out]; exact rd_mem y0 hly))
          obtain ⟨bb, cc1, s1, s2, s3, s4, s5, _, _⟩ := S_slot HO.out x p0 hnx y y0 HIN.out 0
          rw [HCX.out] at s1 s4
          have hA1 : A1 = some ⟨bb, 0, none⟩ := by have h_ := Option.some.inj (HHD.out.symm.trans s1); injection h_ with h_ _ _
          subst hA1
          have hcy : wr.cell? ⟨bb, y.toNat, none⟩ = some (.int .u64 (rd f1 y)) := by rw [← HTA.out]; exact s4
          have qy0 : (0 ≤ y) = True := eq_true y0
          have qy1 : (y < (f1.length : Int)) = True := eq_true hly
          clear s1 s2 s3 s4 s5
          go_wp2_with (fail)
          refine start_ (n := 11) (S := fun w' => w'.cell? ⟨ht, 0, none⟩ = some (.func (.func 62) #[] #[.pointer (some ⟨hm, 0, none⟩)]) ∧ w'.cell? ⟨g, x.toNat * 3 + 1, none⟩ = some (.slice (some ⟨bb, 0, none⟩) f1.length c1)) (ds := [10]) #[false, false, false, false, false, false, false, false, false, false, false] (by kernel_rfl) rfl rfl ⟨((below_drew1 HB.out).cell (World.block_lt_of_cell? w0 _ HCT.out)).trans HCT.out, show wr.drew.cell? _ = _ from HHD.out⟩ (fun hHeld => ?_); refine with_tabW od.tab7 od.bits7 (fun HT_ HW_ => ?_)
          have n0_ := Aside0.mk (Kd.S_drew HO.out)
          have n1_ := Aside0.mk (below_drew1 HB.out)
          have n2_ := Aside0.mk (show wr.drew.cell? ⟨g, x.toNat * 3 + 1, none⟩ = some (.slice (some ⟨bb, 0, none⟩) f1.length c1) from HHD.out)
          generalize hw_ : wr.drew = w5 at n0_ n1_ n2_ hHeld ⊢
          clear hw_ HO HB HHD
          have HO := n0_
          have HB := n1_
          have HHD := n2_
          clear n0_ n1_ n2_
          refine pure_ (i := 0) (N := some 33) (v := ?_) (a' := ?_) #[true, false, false, false, false, false, false, false, false, false, false] rfl rfl (any_of HT_.out (by kernel_rfl)) (fun _ _ _ h => h) (Or.inl ⟨by rfl, ?_⟩) ?_ ?_
          rotate_left
          · intro w'
            go_simp
            with_reducible rfl
          rotate_left
          · simp only [Act.put, List.setIfInBounds_toArray, List.set_cons_zero, List.set_cons_succ, i64_w, i32_w]
            rfl
          refine pure_ (i := 1) (N := some 34) (v := ?_) (a' := ?_) #[true, true, false, false, false, false, false, false, false, false, false] rfl rfl (any_of HT_.out (by kernel_rfl)) (fun _ _ _ h => h) (Or.inl ⟨by rfl, ?_⟩) ?_ ?_
          rotate_left
          · intro w'
            go_simp
            with_reducible rfl
          rotate_left
          · simp only [Act.put, List.setIfInBounds_toArray, List.set_cons_zero, List.set_cons_succ, i64_w, i32_w]
            rfl
          refine pure_ (i := 2) (N := some 35) (v := ?_) (a' := ?_) #[true, true, true, false, false, false, false, false, false, false, false] rfl rfl (any_of HT_.out (by kernel_rfl)) (fun _ _ _ h => h) (Or.inl ⟨by rfl, ?_⟩) ?_ ?_
          rotate_left
          · intro w'
            go_simp
            with_reducible rfl
          rotate_left
          · simp only [Act.put, List.setIfInBounds_toArray, List.set_cons_zero, List.set_cons_succ, i64_w, i32_w]
            rfl
          refine pure_ (i := 3) (N := some 36) (v := ?_) (a' := ?_) #[true, true, true, true, false, false, false, false, false, false, false] rfl rfl (any_of HT_.out (by kernel_rfl)) (fun _ _ _ h => h) (Or.inl ⟨by rfl, ?_⟩) ?_ ?_
          rotate_left
          · intro w'
            go_simp
            with_reducible rfl
          rotate_left
          · simp only [Act.put, List.setIfInBounds_toArray, List.set_cons_zero, List.set_cons_succ, i64_w, i32_w]
            rfl
          refine pure_ (i := 5) (N := some 38) (v := ?_) (a' := ?_) #[true, true, true, true, false, true, false, false, false, false, false] rfl rfl (any_of HT_.out (by kernel_rfl)) (fun _ _ _ h => h) (Or.inl ⟨by rfl, ?_⟩) ?_ ?_
          rotate_left
          · intro w'
            go_simp
            with_reducible rfl
          rotate_left
          · simp only [Act.put, List.setIfInBounds_toArray, List.set_cons_zero, List.set_cons_succ, i64_w, i32_w]
            rfl
          refine pure_ (i := 7) (N := some 40) (v := ?_) (a' := ?_) #[true, true, true, true, false, true, false, true, false, false, false] rfl rfl (any_of HT_.out (by kernel_rfl)) (fun _ _ _ h => h) (Or.inl ⟨by rfl, ?_⟩) ?_ ?_
          rotate_left
          · intro w'
            go_simp
            with_reducible rfl
          rotate_left
          · simp only [Act.put, List.setIfInBounds_toArray, List.set_cons_zero, List.set_cons_succ, i64_w, i32_w]
            rfl
          refine take_ (i := 4) (N := some 37) (v := ?_) (a' := ?_) #[true, true, true, true, true, true, false, true, false, false, false] rfl rfl (take_ofW HT_.out HW_.out (by kernel_rfl)) (fun _ _ _ h => h) (Or.inl ⟨by rfl, ?_⟩) hHeld ?_ ?_
          rotate_left
          · rintro w' ⟨s0, s1⟩
            go_simp
            with_reducible rfl
          rotate_left
          · simp only [Act.put, List.setIfInBounds_toArray, List.set_cons_zero, List.set_cons_succ, i64_w, i32_w]
            rfl
          refine take_ (i := 6) (N := some 39) (v := ?_) (a' := ?_) #[true, true, true, true, true, true, true, true, false, false, false] rfl rfl (take_ofW HT_.out HW_.out (by kernel_rfl)) (fun _ _ _ h => h) (Or.inl ⟨by rfl, ?_⟩) hHeld ?_ ?_
          rotate_left
          · rintro w' ⟨s0, s1⟩
            go_simp
            with_reducible rfl
          rotate_left
          · simp only [Act.put, List.setIfInBounds_toArray, List.set_cons_zero, List.set_cons_succ, i64_w, i32_w]
            rfl
          refine one_ (i := 8) (N := some 41) #[true, true, true, true, true, true, true, true, true, false, false] rfl rfl (one_of HT_.out (by kernel_rfl)) (by decide) (fun K hK => ?_)
          refine goesF_ Try.func62 (by kernel_rfl) rfl #[.int .u64 (rd f1 y), .pointer (some ⟨hm, 0, none⟩)] (by rfl) rfl rfl rfl (by (try simp only [List.map_toArray, List.map_cons, List.map_nil, List.append_toArray, List.cons_append, List.nil_append]); first | done | rfl) ?_
          with_reducible refine (turn_func hm b n m (rd f1 y) _ ((HB.out.cell (World.block_lt_of_cell? w0 _ HCM.out)).trans HCM.out) (HM.out.below HB.out) HWy.out).mono ?_
          rintro e w9 ⟨rfl, ⟨nd, rfl⟩⟩
          refine ⟨_, rfl, ?_⟩
          refine hK.out _ _ ⟨(HB.out.cell (World.block_lt_of_cell? w0 _ HCT.out)).trans HCT.out, hHeld.2⟩ (fun hHeld => ?_)
          clear hK K
          refine norm_ (a' := ?_) ?_ ?_
          rotate_left
          · show Act.put _ (some 41) _ = _
            simp only [Act.put, List.setIfInBounds_toArray, List.set_cons_zero, List.set_cons_succ, i64_w, i32_w]
            rfl
          have n0_ := Aside0.mk (Kd.S_drewN HO.out nd)
          have n1_ := Aside0.mk (pw_below_drewN HB.out nd)
          have n2_ := Aside0.mk (show (w5.drewN nd).cell? ⟨g, x.toNat * 3 + 1, none⟩ = some (.slice (some ⟨bb, 0, none⟩) f1.length c1) from HHD.out)
          generalize hw_ : w5.drewN nd = w6 at n0_ n1_ n2_ hHeld ⊢
          clear hw_ HO HB HHD
          have HO := n0_
          have HB := n1_
          have HHD := n2_
          clear n0_ n1_ n2_
          obtain ⟨b2, cc2, s1, s2, s3, s4, s5, s6, s7⟩ := S_slot HO.out x p0 hnx y y0 HIN.out (turn1 m (rd f1 y))
          rw [HCX.out] at s1 s4 s6
          have hb2 : b2 = bb := by have h_ := Option.some.inj (HHD.out.symm.trans s1); injection h_ with h_ _ _; injection h_ with h_; injection h_ with h_; exact h_.symm
          subst hb2
          have hsu : w6.cell? ⟨b2, y.toNat, none⟩ = some (.int .u64 (rd ts y)) := s4
          have hfu := s5
          refine pure_ (i := 9) (N := some 42) (v := ?_) (a' := ?_) #[true, true, true, true, true, true, true, true, true, true, false] rfl rfl (any_of HT_.out (by kernel_rfl)) (fun _ _ _ h => h) (Or.inl ⟨by rfl, ?_⟩) ?_ ?_
          rotate_left
          · intro w'
            go_simp
            with_reducible rfl
          rotate_left
          · simp only [Act.put, List.setIfInBounds_toArray, List.set_cons_zero, List.set_cons_succ, i64_w, i32_w]
            rfl
          refine last_ (i := 10) (N := none) #[true, true, true, true, true, true, true, true, true, true, true] rfl rfl (one_of HT_.out (by kernel_rfl)) (by decide) (fun K hK => ?_)
          refine skip_ (w1 := ?_) (by rfl) rfl ?_ ?_
          rotate_left
          · go_simp
            rfl
          refine hK.out _ _ ?_
          clear hK K
          refine done_ (done_of HT_.out (by kernel_rfl)) ?_
          have GB2 := Aside0.mk s2
          have n0_ := Aside0.mk (show Kd.S k53 53 (w6.setCell ⟨b2, y.toNat, none⟩ (.int .u64 ((m (rd f1 y)).getD (rd f1 y)))) B (fun _ => True) (.slice (some ⟨g, 0, none⟩) l.length c) (ys.set x.toNat ⟨tc, turnS m f1 (y + 1).toNat, f2⟩) from (by rw [← HCN.out]; exact s6))
          have n1_ := Aside0.mk (show Below w0.heap.size w0 (w6.setCell ⟨b2, y.toNat, none⟩ (.int .u64 ((m (rd f1 y)).getD (rd f1 y)))) from HB.out.grown s7 HB.out.size (fun k hk => by have := Option.some.inj hk; have := GB2.out; have := HLE.out; omega))
          have n2_ := Aside0.mk (show (w6.setCell ⟨b2, y.toNat, none⟩ (.int .u64 ((m (rd f1 y)).getD (rd f1 y)))).cell? ⟨g, x.toNat * 3 + 1, none⟩ = some (.slice (some ⟨b2, 0, none⟩) f1.length c1) from (cell_far (p := ⟨b2, y.toNat, none⟩) (fun e_ => s3 e_.symm) _).trans HHD.out)
          generalize hw_ : (w6.setCell ⟨b2, y.toNat, none⟩ (.int .u64 ((m (rd f1 y)).getD (rd f1 y)))) = w7 at n0_ n1_ n2_ ⊢
          clear hw_ HO HB HHD
          have HO := n0_
          have HB := n1_
          have HHD := n2_
          clear n0_ n1_ n2_
          go_wp2_with (fail)
          go_roundg (gk - 1)
          case measure => have := HKy.out; omega
          case rel => exact ⟨y + 1, (by first | rfl | go_num), by omega, by omega, ⟨by have := HKy.out; omega⟩, HO, HHD, HB⟩
        · have d3b0 : decide (y < (f1.length : Int)) = false := decide_eq_false hly
          have HFULL : turnS m f1 y.toNat = f1.map (turn1 m) := by unfold turnS; rw [List.take_of_length_le (by omega), List.drop_of_length_le (by omega), List.append_nil]
          have HS9 := Aside0.mk HO.out
          rw [HFULL, HTC.out, HF1.out, HF2.out] at HS9
          clear HFULL
          go_wp2_with (fail)
          go_roundg (ko - 1)
          case measure => have := HK.out; rw [← hko] at this ⊢; omega
          case rel => exact ⟨x + 1, (by first | rfl | go_num), by omega, by omega, ⟨by have := HK.out; rw [← hko] at this; omega⟩, ⟨by rw [← HYN.out]; exact HS9.out⟩, HB⟩
    · have c3b0 : decide (x < (l.length : Int)) = false := decide_eq_false hlt
      have HEX : x.toNat = l.length := by omega
      rw [HEX] at HO
      go_wp2_with (fail)
      go_end0
      exact ⟨rfl, HO.out, HB.out⟩
end Go.Proofs.Ytiokegmpooildaa.Hp
