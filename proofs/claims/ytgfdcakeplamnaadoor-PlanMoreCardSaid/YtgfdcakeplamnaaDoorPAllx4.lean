-- printed by xprint.py (this session's driver round the kit's print) out of the translation; Lean checks it
import Derived.Test.YtgfdcakeplamnaaDoorPAllx0
import Derived.Test.YtgfdcakeplamnaaDoorPAllx1
import Derived.Test.YtgfdcakeplamnaaDoorPAllx3
namespace Go.Proofs.YtgfdcakeplamnaaDoor.PAll
open Go.RowKit Go.Proofs.YtgfdcakeplamnaaDoorW.PrintWords Go.Proofs.YtgfdcakeplamnaaDoorW.PrintLast Go.Proofs.YtgfdcakeplamnaaDoorW.PrintMore
attribute [local go_sem] max2_int min2_int max_two min_two max_three min_three max_four min_four   -- for this text's walks alone
set_option linter.unusedVariables false
set_option linter.unusedSimpArgs false

/-! ### plan_Order: function 10 -/
namespace Hd
open Go.Lib
abbrev BL (s : ByteArray) : List UInt8 := s.data.toList
abbrev mkB (l : List UInt8) : ByteArray := ⟨l.toArray⟩
theorem mk_BL (s : ByteArray) : mkB (BL s) = s := by simp [mkB, BL]
theorem BL_inj {s t : ByteArray} (h : BL s = BL t) : s = t := by rw [← mk_BL s, ← mk_BL t, h]
theorem toList_BL (s : ByteArray) : s.toList = BL s := Lib.toList_data s
theorem wrap_succ {i : Int} {n : Nat} (h0 : 0 ≤ i) (h : i < (n : Int)) (hn : n ≤ 140737488355328) : wrap64 (i + 1) = i + 1 := by
  unfold wrap64; omega
theorem ev_out {α : Type} {g : Nat → Option α} {r : α} (h : Ev g r) : ∃ K, ∀ k, K ≤ k → g k = some r := h
theorem ev_mk {α : Type} {g : Nat → Option α} {r : α} (K : Nat) (h : ∀ k, K ≤ k → g k = some r) : Ev g r := ⟨K, h⟩
theorem ev_mk1 {α : Type} {g : Nat → Option α} {r : α} (K : Nat) (h : ∀ m, K ≤ m → g (m + 1) = some r) : Ev g r :=
  ⟨K + 1, fun n hn => by
    obtain ⟨m, rfl⟩ : ∃ m, n = m + 1 := ⟨n - 1, by omega⟩
    exact h m (by omega)⟩
theorem rdOf_get (l : List ByteArray) (i : Nat) (h : i < l.length) : rdOf ByteArray.empty l (i : Int) = l[i] := by
  unfold rdOf; simp [List.getD_eq_getElem?_getD, h]
def inB (l : List ByteArray) (s : ByteArray) : Bool := l.any fun x => decide (x = s)
theorem Idx_l0 (l : List ByteArray) (s : ByteArray) (hl : l.length ≤ 140737488355328) : ∀ (d i : Nat), l.length - i = d → i ≤ l.length → ∃ r : Int, Ev (fun k => slices_Index_string_string.l0 k l s (l.length : Int) (i : Int)) r ∧ (decide (r ≥ 0) = inB (l.drop i) s)
  | 0, i, hd, hi => by
    refine ⟨-1, Ev.step (f := fun _ => some (-1)) (fun k => ?_) (Ev.now _), ?_⟩
    · rw [slices_Index_string_string.l0, if_neg (by omega)]
    · rw [List.drop_eq_nil_of_le (by omega)]; rfl
  | d + 1, i, hd, hi => by
    have hlt : i < l.length := by omega
    have hw : wrap64 ((i : Int) + 1) = ((i + 1 : Nat) : Int) := wrap_succ (by omega) (show (i : Int) < (l.length : Int) by omega) (by omega)
    rw [List.drop_eq_getElem_cons hlt]
    by_cases h1 : l[i] = s
    · refine ⟨(i : Int), Ev.step (f := fun _ => some (i : Int)) (fun k => ?_) (Ev.now _), ?_⟩
      · rw [slices_Index_string_string.l0, if_pos (by omega), if_pos (by omega), if_pos (by omega), rdOf_get l i hlt, if_pos (by rw [h1])]
      · unfold inB; rw [List.any_cons, decide_eq_true h1, decide_eq_true (show (i : Int) ≥ 0 by omega)]; rfl
    · obtain ⟨r, hr, he⟩ := Idx_l0 l s hl d (i + 1) (by omega) (by omega)
      refine ⟨r, Ev.step (fun k => ?_) hr, ?_⟩
      · rw [slices_Index_string_string.l0, if_pos (by omega), if_pos (by omega), if_pos (by omega), rdOf_get l i hlt, if_neg (by rw [toList_BL, toList_BL]; exact fun h => h1 (BL_inj h).symm), hw]
      · rw [he]; unfold inB; rw [List.any_cons, decide_eq_false h1, Bool.false_or]
theorem Contains_val (l : List ByteArray) (s : ByteArray) (hl : l.length ≤ 140737488355328) : Ev (fun k => slices_Contains_string_string.f k l s) (inB l s) := by
  obtain ⟨r, hr, he⟩ := Idx_l0 l s hl _ 0 rfl (Nat.zero_le _)
  rw [List.drop_zero] at he
  refine Ev.congr (fun k => by unfold slices_Contains_string_string.f; rfl) (Ev.bind hr ⟨0, fun _ _ => ?_⟩)
  rw [he]
theorem own_of_Rn {w : World} {base : Nat} {ok : Nat → Prop} {v : Value} {xs : List Int} (h : Kd.R (Kd.int .i64) 3 w base ok v xs) : w.ownsRow base 3 1 v xs.length (xs.map (Value.int .i64)) := Kd.own_of_R h
theorem R_of_ownn {w : World} {base : Nat} {ok : Nat → Prop} {v : Value} {xs : List Int} (h : w.ownsRow base 3 1 v xs.length (xs.map (Value.int .i64))) (hok : ∀ k, v.ownBlock = some k → ok k) : Kd.R (Kd.int .i64) 3 w base ok v xs := Kd.R_of_own h hok
theorem grown_putRow {α : Type} [Inhabited α] {enc : α → Value} {w : World} {g q : Nat} {d : Array α} : w.grownBy (Sort.putRow enc (Sort.ahead w q) g 0 d) (some g) :=
  ⟨rfl, rfl, rfl, by simp [Sort.putRow, Sort.mapBlock, Sort.ahead], fun k hk hne => by
    have : g ≠ k := fun e => hne (by rw [e])
    simp [Sort.putRow, Sort.mapBlock, Sort.ahead, Array.getElem?_modify, this]⟩
/-- One element out of a row of one's own. -/
theorem delete_R (w : World) (base : Nat) (ok : Nat → Prop) (v : Value) (xs : List Int) (i : Nat) (hi : i < xs.length) (ho : Kd.R (Kd.int .i64) 3 w base ok v xs) :
    Calls Tryd.prog 24 #[v, .int .i64 (i : Int), .int .i64 ((i : Int) + 1)] w fun e w' => ∃ v', e = .returned v' ∧ Kd.R (Kd.int .i64) 3 w' base ok v' (xs.eraseIdx i) ∧ w.grownBy w' v.ownBlock ∧ v'.ownBlock = v.ownBlock := by
  rw [show (i : Int) + 1 = ((i + 1 : Nat) : Int) by omega]
  have hown := own_of_Rn ho
  have hv : v ≠ .slice none 0 0 := by
    rintro rfl
    have := hown.2
    rcases this with ⟨_, h⟩ | ⟨_, _, _, h, _⟩
    · omega
    · cases h
  obtain ⟨g, cap, rfl, hb, hlt, hn, hm, hl, hH⟩ := holds_of_ownsRow hown hv
  have hok : ∀ k, (Value.slice (some ⟨g, 0, none⟩) xs.length cap).ownBlock = some k → ok k := ho.1
  have hy : (xs.take i ++ xs.drop (i + 1) ++ List.replicate (i + 1 - i) 0).length = xs.length := by
    simp only [List.length_append, List.length_take, List.length_drop, List.length_replicate]
    omega
  have he : (xs.take i ++ xs.drop (i + 1) ++ List.replicate (i + 1 - i) 0).take (xs.length - 1) = xs.eraseIdx i := by
    rw [List.eraseIdx_eq_take_drop_succ]
    refine List.take_left' ?_
    rw [List.length_append, List.length_take, List.length_drop]
    omega
  have hel : (xs.eraseIdx i).length = xs.length - 1 := by rw [List.length_eraseIdx, if_pos hi]
  refine (Tryd.slices_Delete_int g 0 cap i (i + 1) xs w hH hn (by simp only [maxLen] at hm; omega) (by omega) (by omega)).mono ?_
  rintro e w' ⟨rfl, q, rfl⟩
  have hr := ownsRow_putRow (q := q) (k := xs.length - 1) hown hy (by omega)
  rw [he] at hr
  refine ⟨_, rfl, R_of_ownn ?_ ?_, grown_putRow, rfl⟩
  · rw [hel, show xs.length - (i + 1 - i) = xs.length - 1 by omega]
    exact hr
  · intro k hk
    exact hok k hk
/-- The numbers below n, sorted as slices.SortFunc does it. -/
def sortF (n : Nat) (h0 : 0 < n) (cf : Fin n → Fin n → Int) : List (Fin n) := (@Sort.insertionSort (Fin n) ⟨⟨0, h0⟩⟩ (ltOf cf) (List.finRange n).toArray 0 n).toList
/-- A row of one's own, sorted by a closure that only reads. -/
theorem sort_R (n : Nat) (h0 : 0 < n) (h12 : n ≤ 12) (cf : Fin n → Fin n → Int) (hS : Sort.SWO (@ltOf (Fin n) cf)) (cb : Array Value) (w : World) (base : Nat) (ok : Nat → Prop) (v : Value) (hbase : base ≤ w.heap.size)
    (ho : Kd.R (Kd.int .i64) 3 w base ok v ((List.finRange n).map fun i => (i.val : Int)))
    (hc : ∀ (W : World) (x y : Fin n), Below base w W → Calls Tryd.prog 22 (#[.int .i64 (x.val : Int), .int .i64 (y.val : Int)] ++ cb) W fun e w' => e = .returned (.int .i64 (cf x y)) ∧ ∃ q, w' = W.drewN q) :
    Calls Tryd.prog 21 #[v, .func (.func 22) #[] cb] w fun e w' => e = .returned (.tuple #[]) ∧ ∃ l : List (Fin n), l = sortF n h0 cf ∧ l.Perm (List.finRange n) ∧ l.Pairwise (fun a b => ltOf cf b a = false) ∧ Kd.R (Kd.int .i64) 3 w' base ok v (l.map fun i => (i.val : Int)) ∧ w.grownBy w' v.ownBlock := by
  letI : Inhabited (Fin n) := ⟨⟨0, h0⟩⟩
  have hown0 := own_of_Rn ho
  have hown : w.ownsRow base 3 1 v n ((List.finRange n).map fun i : Fin n => Value.int .i64 (i.val : Int)) := by
    rw [List.length_map, List.length_finRange, List.map_map] at hown0
    exact hown0
  have hv : v ≠ .slice none 0 0 := by
    rintro rfl
    rcases hown.2 with ⟨_, h⟩ | ⟨_, _, _, h, _⟩
    · omega
    · cases h
  obtain ⟨g, cap, rfl, hb, hlt, hn, hm, hl, hH⟩ := holds_of_ownsRow hown hv
  have hok : ∀ k, (Value.slice (some ⟨g, 0, none⟩) n cap).ownBlock = some k → ok k := ho.1
  have hsz : (List.finRange n).toArray.size = n := by simp
  have eg : ∀ args w, (callFunc 22 args).run Tryd.prog w = .ok (.enter 22 args) w := enters_of Tryd.func22 (by kernel_rfl) rfl
  have hlen : ∀ (k : Nat) (W : World), k ≤ 12 → Calls Tryd.prog 36 #[.int .u64 k] W fun e w' => (∃ l : Int, e = .returned (.int .i64 l)) ∧ w' = W :=
    fun k W h => (Tryd.bits_Len k W (by omega) (by omega)).mono fun _ _ ⟨he, hw⟩ => ⟨⟨_, he⟩, hw⟩
  have hcmp : CmpReads Tryd.prog 22 cb (fun i : Fin n => Value.int .i64 (i.val : Int)) cf g 0 (List.finRange n).toArray.size w := fun m os dk hdk x y => hc _ x y (by
    refine ⟨rfl, rfl, rfl, ?_, fun k hk => ?_⟩
    · simp [sortWorld, Sort.grow, Sort.putRow, Sort.mapBlock]
    · have hkw : k < w.heap.size := by omega
      have hgk : g ≠ k := by omega
      simp [sortWorld, Sort.grow, Sort.putRow, Sort.mapBlock, Array.getElem?_append, Array.getElem?_modify, Array.getElem_modify, hkw, hgk])
  have hcon := Any.slices_SortFunc_small Tryd.sortInt (fun i : Fin n => Value.int .i64 (i.val : Int)) (fun _ => rfl) cf 22 cb g 0 cap (List.finRange n).toArray w eg hcmp hH (by rw [hsz]; exact h12) hlen
  rw [hsz] at hcon
  refine (show Calls Tryd.prog 21 _ _ _ from hcon).mono ?_
  rintro e w' ⟨rfl, m, rfl⟩
  obtain ⟨hp, hs⟩ := Sort.insertionSort_holds (lt := ltOf cf) hS (List.finRange n).toArray 0 n (Nat.zero_le _) (by rw [hsz]; exact Nat.le_refl _)
  obtain ⟨d', hd'⟩ : ∃ d', d' = Sort.insertionSort (ltOf cf) (List.finRange n).toArray 0 n := ⟨_, rfl⟩
  rw [← hd'] at hp hs ⊢
  have hds : d'.size = n := by rw [hp.1, hsz]
  have hdl : d'.toList.length = n := by simpa using hds
  refine ⟨rfl, d'.toList, by rw [hd']; rfl, ?_, ?_, ?_, ?_⟩
  · have h3 := hp.2.2
    have e1 : ∀ (b : Array (Fin n)), b.size = n → (b.extract 0 n).toList = b.toList := fun b hb => by
      rw [Array.toList_extract, List.extract_eq_take_drop, List.drop_zero]
      exact List.take_of_length_le (by have : b.toList.length = b.size := by simp
                                       omega)
    rw [e1 _ hds, e1 _ hsz] at h3
    exact h3
  · rw [List.pairwise_iff_getElem]
    intro i j hi hj hij
    have := hs i j (Nat.zero_le _) hij (by omega)
    rw [getElem!_pos d' j (by omega), getElem!_pos d' i (by omega)] at this
    exact this
  · have hr := ownsRow_putRow (q := 0) (k := n) hown hdl (Nat.le_refl _)
    rw [List.take_of_length_le (by omega)] at hr
    have hr2 : (Sort.putRow (fun i : Fin n => Value.int .i64 (i.val : Int)) w g 0 d').ownsRow base 3 1 (.slice (some ⟨g, 0, none⟩) n cap) (d'.toList.map fun i => (i.val : Int)).length ((d'.toList.map fun i => (i.val : Int)).map (Value.int .i64)) := by
      rw [List.length_map, hdl, List.map_map]
      exact hr
    exact Kd.R_below (R_of_ownn hr2 hok) (pw_below_drewN (Below.refl _ _) m)
  · have hg : w.grownBy (Sort.putRow (fun i : Fin n => Value.int .i64 (i.val : Int)) (Sort.ahead w 0) g 0 d') (some g) := grown_putRow
    exact ⟨hg.os, hg.tape, hg.output, hg.size, hg.block⟩
/-- A package's name; which of two comes first; does one wait? -/
def nameP (ps : List S34) (i : Int) : ByteArray := (rd_T34 ps i).f0
def cmpN (ps : List S34) (i k : Int) : Int := if Op.bytesLess (nameP ps i).toList (nameP ps k).toList = true then -1 else 1
def waitsB (ps : List S34) (needs : List ByteArray) (l : List Int) : Bool := l.any fun i => inB needs (nameP ps i)
def pcmp.T1 : Bool × List (List Nat × List Nat) := (true, [([], []), ([], []), ([0, 1], [0, 1]), ([2], [2]), ([3], [3]), ([], []), ([], []), ([5, 6], [5, 6]), ([7], [7]), ([8], [8]), ([4, 9], [4, 9])])
def pcmp.B1 : List Nat := [0, 0, 3, 7, 15, 0, 0, 96, 224, 480, 1023]
theorem pcmp.tab1 : rtab .any (opsOf Tryd.f22 1) = pcmp.T1 := by kernel_rfl
theorem pcmp.bits1 : waitsOk pcmp.T1.2 pcmp.B1 = true := by kernel_rfl
set_option maxHeartbeats 16000000 in
set_option maxRecDepth 100000 in
theorem cmp_calls (ps : List S34) (A1 : Option Addr) (c1 gp : Nat) (i k : Int) (pi : 0 ≤ i) (qi : i < (ps.length : Int)) (pk : 0 ≤ k) (qk : k < (ps.length : Int)) (w0 W : World) (hC : Kd.C k34 w0 A1 ps.length ps) (hg : w0.heap[gp]? = some (.cells #[.slice A1 ps.length c1] 23 (0, 0))) (hB : Below w0.heap.size w0 W) :
    Calls Tryd.prog 22 #[.int .i64 i, .int .i64 k, .pointer (some ⟨gp, 0, none⟩)] W fun e w' => e = .returned (.int .i64 (cmpN ps i k)) ∧ Drawn0 W w' := by
  obtain ⟨ad, Ai2, ci2, Ai3, ci3, e_i, hi_0, hi_1, hi_2, hi_3, il2, ii2, il3, ii3⟩ := at_T34 hC i pi qi
  obtain ⟨ad', Ak2, ck2, Ak3, ck3, e_k, hk_0, hk_1, hk_2, hk_3, kl2, ki2, kl3, ki3⟩ := at_T34 hC k pk qk
  subst e_i
  obtain rfl : ad = ad' := Option.some.inj e_k
  have hcz_0 : W.cell? ⟨gp, 0, none⟩ = some (.slice (some ad) ps.length c1) := (blk_cell (blk_below hg hB) 0).trans rfl
  replace hi_0 := (hB.cell (World.block_lt_of_cell? w0 _ hi_0)).trans hi_0
  replace hk_0 := (hB.cell (World.block_lt_of_cell? w0 _ hk_0)).trans hk_0
  clear hi_1 hi_2 hi_3 il2 ii2 il3 ii3 hk_1 hk_2 hk_3 kl2 ki2 kl3 ki3 hC hg hB e_k
  replace pi := eq_true pi
  replace qi := eq_true qi
  replace pk := eq_true pk
  replace qk := eq_true qk
  unfold cmpN nameP
  cases hb : Op.bytesLess (rd_T34 ps i).f0.toList (rd_T34 ps k).f0.toList with
  | true =>
    go_enter Tryd.func22, Tryd.ntmps22
    go_upto_region 1 with (fail)
    refine start_ (n := 11) (S := fun w' => w'.cell? ⟨gp, 0, none⟩ = some (.slice (some ad) ps.length c1) ∧ w'.cell? (ad.add (i.toNat * 4)) = some (.string (rd_T34 ps i).f0) ∧ w'.cell? (ad.add (k.toNat * 4)) = some (.string (rd_T34 ps k).f0)) (ds := []) #[false, false, false, false, false, false, false, false, false, false, false] (by kernel_rfl) rfl rfl ⟨hcz_0, hi_0, hk_0⟩ (fun hHeld => ?_); refine with_tabW pcmp.tab1 pcmp.bits1 (fun HT_ HW_ => ?_)
    refine take_ (i := 0) (N := some 6) (v := ?_) (a' := ?_) #[true, false, false, false, false, false, false, false, false, false, false] rfl rfl (take_ofW HT_.out HW_.out (by kernel_rfl)) (fun _ _ _ h => h) (Or.inl ⟨by rfl, ?_⟩) hHeld ?_ ?_
    rotate_left
    · rintro w' ⟨s0, s1, s2⟩
      go_simp
      with_reducible rfl
    rotate_left
    · simp only [Act.put, List.setIfInBounds_toArray, List.set_cons_zero, List.set_cons_succ, i64_w, i32_w]
      rfl
    refine pure_ (i := 1) (N := some 7) (v := ?_) (a' := ?_) #[true, true, false, false, false, false, false, false, false, false, false] rfl rfl (any_of HT_.out (by kernel_rfl)) (fun _ _ _ h => h) (Or.inl ⟨by rfl, ?_⟩) ?_ ?_
    rotate_left
    · intro w'
      go_simp
      with_reducible rfl
    rotate_left
    · simp only [Act.put, List.setIfInBounds_toArray, List.set_cons_zero, List.set_cons_succ, i64_w, i32_w]
      rfl
    refine pure_ (i := 2) (N := some 8) (v := ?_) (a' := ?_) #[true, true, true, false, false, false, false, false, false, false, false] rfl rfl (any_of HT_.out (by kernel_rfl)) (fun _ _ _ h => h) (Or.inl ⟨by rfl, ?_⟩) ?_ ?_
    rotate_left
    · intro w'
      go_simp
      with_reducible rfl
    rotate_left
    · simp only [Act.put, List.setIfInBounds_toArray, List.set_cons_zero, List.set_cons_succ, i64_w, i32_w]
      rfl
    refine pure_ (i := 3) (N := some 9) (v := ?_) (a' := ?_) #[true, true, true, true, false, false, false, false, false, false, false] rfl rfl (any_of HT_.out (by kernel_rfl)) (fun _ _ _ h => h) (Or.inl ⟨by rfl, ?_⟩) ?_ ?_
    rotate_left
    · intro w'
      go_simp
      with_reducible rfl
    rotate_left
    · simp only [Act.put, List.setIfInBounds_toArray, List.set_cons_zero, List.set_cons_succ, i64_w, i32_w]
      rfl
    refine take_ (i := 4) (N := some 10) (v := ?_) (a' := ?_) #[true, true, true, true, true, false, false, false, false, false, false] rfl rfl (take_ofW HT_.out HW_.out (by kernel_rfl)) (fun _ _ _ h => h) (Or.inl ⟨by rfl, ?_⟩) hHeld ?_ ?_
    rotate_left
    · rintro w' ⟨s0, s1, s2⟩
      go_simp
      with_reducible rfl
    rotate_left
    · simp only [Act.put, List.setIfInBounds_toArray, List.set_cons_zero, List.set_cons_succ, i64_w, i32_w]
      rfl
    refine take_ (i := 5) (N := some 11) (v := ?_) (a' := ?_) #[true, true, true, true, true, true, false, false, false, false, false] rfl rfl (take_ofW HT_.out HW_.out (by kernel_rfl)) (fun _ _ _ h => h) (Or.inl ⟨by rfl, ?_⟩) hHeld ?_ ?_
    rotate_left
    · rintro w' ⟨s0, s1, s2⟩
      go_simp
      with_reducible rfl
    rotate_left
    · simp only [Act.put, List.setIfInBounds_toArray, List.set_cons_zero, List.set_cons_succ, i64_w, i32_w]
      rfl
    refine pure_ (i := 6) (N := some 12) (v := ?_) (a' := ?_) #[true, true, true, true, true, true, true, false, false, false, false] rfl rfl (any_of HT_.out (by kernel_rfl)) (fun _ _ _ h => h) (Or.inl ⟨by rfl, ?_⟩) ?_ ?_
    rotate_left
    · intro w'
      go_simp
      with_reducible rfl
    rotate_left
    · simp only [Act.put, List.setIfInBounds_toArray, List.set_cons_zero, List.set_cons_succ, i64_w, i32_w]
      rfl
    refine pure_ (i := 7) (N := some 13) (v := ?_) (a' := ?_) #[true, true, true, true, true, true, true, true, false, false, false] rfl rfl (any_of HT_.out (by kernel_rfl)) (fun _ _ _ h => h) (Or.inl ⟨by rfl, ?_⟩) ?_ ?_
    rotate_left
    · intro w'
      go_simp
      with_reducible rfl
    rotate_left
    · simp only [Act.put, List.setIfInBounds_toArray, List.set_cons_zero, List.set_cons_succ, i64_w, i32_w]
      rfl
    refine pure_ (i := 8) (N := some 14) (v := ?_) (a' := ?_) #[true, true, true, true, true, true, true, true, true, false, false] rfl rfl (any_of HT_.out (by kernel_rfl)) (fun _ _ _ h => h) (Or.inl ⟨by rfl, ?_⟩) ?_ ?_
    rotate_left
    · intro w'
      go_simp
      with_reducible rfl
    rotate_left
    · simp only [Act.put, List.setIfInBounds_toArray, List.set_cons_zero, List.set_cons_succ, i64_w, i32_w]
      rfl
    refine take_ (i := 9) (N := some 15) (v := ?_) (a' := ?_) #[true, true, true, true, true, true, true, true, true, true, false] rfl rfl (take_ofW HT_.out HW_.out (by kernel_rfl)) (fun _ _ _ h => h) (Or.inl ⟨by rfl, ?_⟩) hHeld ?_ ?_
    rotate_left
    · rintro w' ⟨s0, s1, s2⟩
      go_simp
      with_reducible rfl
    rotate_left
    · simp only [Act.put, List.setIfInBounds_toArray, List.set_cons_zero, List.set_cons_succ, i64_w, i32_w]
      rfl
    refine pure_ (i := 10) (N := some 16) (v := ?_) (a' := ?_) #[true, true, true, true, true, true, true, true, true, true, true] rfl rfl (any_of HT_.out (by kernel_rfl)) (fun _ _ _ h => h) (Or.inl ⟨by rfl, ?_⟩) ?_ ?_
    rotate_left
    · intro w'
      go_simp
      with_reducible rfl
    rotate_left
    · simp only [Act.put, List.setIfInBounds_toArray, List.set_cons_zero, List.set_cons_succ, i64_w, i32_w]
      rfl
    refine done_ (done_of HT_.out (by kernel_rfl)) ?_
    go_wp2_with (fail)
    go_ret
    exact ⟨rfl, (by repeat (first | exact Drawn0.refl _ | apply Drawn0.step))⟩
  | false =>
    go_enter Tryd.func22, Tryd.ntmps22
    go_upto_region 1 with (fail)
    refine start_ (n := 11) (S := fun w' => w'.cell? ⟨gp, 0, none⟩ = some (.slice (some ad) ps.length c1) ∧ w'.cell? (ad.add (i.toNat * 4)) = some (.string (rd_T34 ps i).f0) ∧ w'.cell? (ad.add (k.toNat * 4)) = some (.string (rd_T34 ps k).f0)) (ds := []) #[false, false, false, false, false, false, false, false, false, false, false] (by kernel_rfl) rfl rfl ⟨hcz_0, hi_0, hk_0⟩ (fun hHeld => ?_); refine with_tabW pcmp.tab1 pcmp.bits1 (fun HT_ HW_ => ?_)
    refine take_ (i := 0) (N := some 6) (v := ?_) (a' := ?_) #[true, false, false, false, false, false, false, false, false, false, false] rfl rfl (take_ofW HT_.out HW_.out (by kernel_rfl)) (fun _ _ _ h => h) (Or.inl ⟨by rfl, ?_⟩) hHeld ?_ ?_
    rotate_left
    · rintro w' ⟨s0, s1, s2⟩
      go_simp
      with_reducible rfl
    rotate_left
    · simp only [Act.put, List.setIfInBounds_toArray, List.set_cons_zero, List.set_cons_succ, i64_w, i32_w]
      rfl
    refine pure_ (i := 1) (N := some 7) (v := ?_) (a' := ?_) #[true, true, false, false, false, false, false, false, false, false, false] rfl rfl (any_of HT_.out (by kernel_rfl)) (fun _ _ _ h => h) (Or.inl ⟨by rfl, ?_⟩) ?_ ?_
    rotate_left
    · intro w'
      go_simp
      with_reducible rfl
    rotate_left
    · simp only [Act.put, List.setIfInBounds_toArray, List.set_cons_zero, List.set_cons_succ, i64_w, i32_w]
      rfl
    refine pure_ (i := 2) (N := some 8) (v := ?_) (a' := ?_) #[true, true, true, false, false, false, false, false, false, false, false] rfl rfl (any_of HT_.out (by kernel_rfl)) (fun _ _ _ h => h) (Or.inl ⟨by rfl, ?_⟩) ?_ ?_
    rotate_left
    · intro w'
      go_simp
      with_reducible rfl
    rotate_left
    · simp only [Act.put, List.setIfInBounds_toArray, List.set_cons_zero, List.set_cons_succ, i64_w, i32_w]
      rfl
    refine pure_ (i := 3) (N := some 9) (v := ?_) (a' := ?_) #[true, true, true, true, false, false, false, false, false, false, false] rfl rfl (any_of HT_.out (by kernel_rfl)) (fun _ _ _ h => h) (Or.inl ⟨by rfl, ?_⟩) ?_ ?_
    rotate_left
    · intro w'
      go_simp
      with_reducible rfl
    rotate_left
    · simp only [Act.put, List.setIfInBounds_toArray, List.set_cons_zero, List.set_cons_succ, i64_w, i32_w]
      rfl
    refine take_ (i := 4) (N := some 10) (v := ?_) (a' := ?_) #[true, true, true, true, true, false, false, false, false, false, false] rfl rfl (take_ofW HT_.out HW_.out (by kernel_rfl)) (fun _ _ _ h => h) (Or.inl ⟨by rfl, ?_⟩) hHeld ?_ ?_
    rotate_left
    · rintro w' ⟨s0, s1, s2⟩
      go_simp
      with_reducible rfl
    rotate_left
    · simp only [Act.put, List.setIfInBounds_toArray, List.set_cons_zero, List.set_cons_succ, i64_w, i32_w]
      rfl
    refine take_ (i := 5) (N := some 11) (v := ?_) (a' := ?_) #[true, true, true, true, true, true, false, false, false, false, false] rfl rfl (take_ofW HT_.out HW_.out (by kernel_rfl)) (fun _ _ _ h => h) (Or.inl ⟨by rfl, ?_⟩) hHeld ?_ ?_
    rotate_left
    · rintro w' ⟨s0, s1, s2⟩
      go_simp
      with_reducible rfl
    rotate_left
    · simp only [Act.put, List.setIfInBounds_toArray, List.set_cons_zero, List.set_cons_succ, i64_w, i32_w]
      rfl
    refine pure_ (i := 6) (N := some 12) (v := ?_) (a' := ?_) #[true, true, true, true, true, true, true, false, false, false, false] rfl rfl (any_of HT_.out (by kernel_rfl)) (fun _ _ _ h => h) (Or.inl ⟨by rfl, ?_⟩) ?_ ?_
    rotate_left
    · intro w'
      go_simp
      with_reducible rfl
    rotate_left
    · simp only [Act.put, List.setIfInBounds_toArray, List.set_cons_zero, List.set_cons_succ, i64_w, i32_w]
      rfl
    refine pure_ (i := 7) (N := some 13) (v := ?_) (a' := ?_) #[true, true, true, true, true, true, true, true, false, false, false] rfl rfl (any_of HT_.out (by kernel_rfl)) (fun _ _ _ h => h) (Or.inl ⟨by rfl, ?_⟩) ?_ ?_
    rotate_left
    · intro w'
      go_simp
      with_reducible rfl
    rotate_left
    · simp only [Act.put, List.setIfInBounds_toArray, List.set_cons_zero, List.set_cons_succ, i64_w, i32_w]
      rfl
    refine pure_ (i := 8) (N := some 14) (v := ?_) (a' := ?_) #[true, true, true, true, true, true, true, true, true, false, false] rfl rfl (any_of HT_.out (by kernel_rfl)) (fun _ _ _ h => h) (Or.inl ⟨by rfl, ?_⟩) ?_ ?_
    rotate_left
    · intro w'
      go_simp
      with_reducible rfl
    rotate_left
    · simp only [Act.put, List.setIfInBounds_toArray, List.set_cons_zero, List.set_cons_succ, i64_w, i32_w]
      rfl
    refine take_ (i := 9) (N := some 15) (v := ?_) (a' := ?_) #[true, true, true, true, true, true, true, true, true, true, false] rfl rfl (take_ofW HT_.out HW_.out (by kernel_rfl)) (fun _ _ _ h => h) (Or.inl ⟨by rfl, ?_⟩) hHeld ?_ ?_
    rotate_left
    · rintro w' ⟨s0, s1, s2⟩
      go_simp
      with_reducible rfl
    rotate_left
    · simp only [Act.put, List.setIfInBounds_toArray, List.set_cons_zero, List.set_cons_succ, i64_w, i32_w]
      rfl
    refine pure_ (i := 10) (N := some 16) (v := ?_) (a' := ?_) #[true, true, true, true, true, true, true, true, true, true, true] rfl rfl (any_of HT_.out (by kernel_rfl)) (fun _ _ _ h => h) (Or.inl ⟨by rfl, ?_⟩) ?_ ?_
    rotate_left
    · intro w'
      go_simp
      with_reducible rfl
    rotate_left
    · simp only [Act.put, List.setIfInBounds_toArray, List.set_cons_zero, List.set_cons_succ, i64_w, i32_w]
      rfl
    refine done_ (done_of HT_.out (by kernel_rfl)) ?_
    go_wp2_with (fail)
    go_ret
    exact ⟨rfl, (by repeat (first | exact Drawn0.refl _ | apply Drawn0.step))⟩
def pw1.T1 : Bool × List (List Nat × List Nat) := (true, [([], []), ([0], [0]), ([], []), ([], []), ([2, 3], [2, 3]), ([4], [4]), ([5], [5]), ([1, 6], [1, 6]), ([7, 7, 0, 1, 2, 3, 4, 5, 6, 7], [7])])
def pw1.B1 : List Nat := [0, 1, 0, 0, 12, 28, 60, 127, 255]
theorem pw1.tab1 : rtab .any (opsOf Tryd.f38 1) = pw1.T1 := by kernel_rfl
theorem pw1.bits1 : waitsOk pw1.T1.2 pw1.B1 = true := by kernel_rfl
set_option maxHeartbeats 16000000 in
set_option maxRecDepth 100000 in
theorem w1_calls (ps : List S34) (A1 : Option Addr) (c1 gp gq : Nat) (p0 : ByteArray) (p1 : Int) (An : Option Addr) (cn : Nat) (needs : List ByteArray) (p3 : Value) (i : Int) (pi : 0 ≤ i) (qi : i < (ps.length : Int)) (w0 W : World) (hC : Kd.C k34 w0 A1 ps.length ps) (hg : w0.heap[gp]? = some (.cells #[.slice A1 ps.length c1] 23 (0, 0))) (hB : Below w0.heap.size w0 W) (hq : w0.heap[gq]? = some (.cells #[.string p0, .int .i64 p1, .slice An needs.length cn, p3] 34 (0, 0))) (hn : Kd.C Kd.string w0 An needs.length needs) (hnc : needs.length ≤ cn) (hnl : needs.length ≤ 1000000) :
    Calls Tryd.prog 38 #[.int .i64 i, .pointer (some ⟨gq, 0, none⟩), .pointer (some ⟨gp, 0, none⟩)] W fun e w' => e = .returned (.bool (inB needs (nameP ps i))) ∧ Drawn0 W w' := by
  obtain ⟨ad, Ai2, ci2, Ai3, ci3, e_i, hi_0, hi_1, hi_2, hi_3, il2, ii2, il3, ii3⟩ := at_T34 hC i pi qi
  subst e_i
  obtain ⟨K_, hcn⟩ := ev_out (Contains_val needs (rd_T34 ps i).f0 (by omega))
  have HCN := Aside0.mk (hcn K_ (Nat.le_refl _))
  have HN := Aside0.mk (Kd.C_below hn hB)
  have HNC := Aside0.mk hnc
  have hcz_0 : W.cell? ⟨gp, 0, none⟩ = some (.slice (some ad) ps.length c1) := (blk_cell (blk_below hg hB) 0).trans rfl
  have hcq_2 : W.cell? ⟨gq, 2, none⟩ = some (.slice An needs.length cn) := (blk_cell (blk_below hq hB) 2).trans rfl
  replace hi_0 := (hB.cell (World.block_lt_of_cell? w0 _ hi_0)).trans hi_0
  clear hi_1 hi_2 hi_3 il2 ii2 il3 ii3 hC hg hB hq hn hnc hnl hcn
  replace pi := eq_true pi
  replace qi := eq_true qi
  unfold nameP
  go_enter Tryd.func38, Tryd.ntmps38
  go_upto_region 1 with (fail)
  refine start_ (n := 9) (S := fun w' => w'.cell? ⟨gq, 2, none⟩ = some (.slice An needs.length cn) ∧ w'.cell? ⟨gp, 0, none⟩ = some (.slice (some ad) ps.length c1) ∧ w'.cell? (ad.add (i.toNat * 4)) = some (.string (rd_T34 ps i).f0)) (ds := []) #[false, false, false, false, false, false, false, false, false] (by kernel_rfl) rfl rfl ⟨hcq_2, hcz_0, hi_0⟩ (fun hHeld => ?_); refine with_tabW pw1.tab1 pw1.bits1 (fun HT_ HW_ => ?_)
  refine pure_ (i := 0) (N := some 5) (v := ?_) (a' := ?_) #[true, false, false, false, false, false, false, false, false] rfl rfl (any_of HT_.out (by kernel_rfl)) (fun _ _ _ h => h) (Or.inl ⟨by rfl, ?_⟩) ?_ ?_
  rotate_left
  · intro w'
    go_simp
    with_reducible rfl
  rotate_left
  · simp only [Act.put, List.setIfInBounds_toArray, List.set_cons_zero, List.set_cons_succ, i64_w, i32_w]
    rfl
  refine take_ (i := 1) (N := some 6) (v := ?_) (a' := ?_) #[true, true, false, false, false, false, false, false, false] rfl rfl (take_ofW HT_.out HW_.out (by kernel_rfl)) (fun _ _ _ h => h) (Or.inl ⟨by rfl, ?_⟩) hHeld ?_ ?_
  rotate_left
  · rintro w' ⟨s0, s1, s2⟩
    go_simp
    with_reducible rfl
  rotate_left
  · simp only [Act.put, List.setIfInBounds_toArray, List.set_cons_zero, List.set_cons_succ, i64_w, i32_w]
    rfl
  refine take_ (i := 2) (N := some 7) (v := ?_) (a' := ?_) #[true, true, true, false, false, false, false, false, false] rfl rfl (take_ofW HT_.out HW_.out (by kernel_rfl)) (fun _ _ _ h => h) (Or.inl ⟨by rfl, ?_⟩) hHeld ?_ ?_
  rotate_left
  · rintro w' ⟨s0, s1, s2⟩
    go_simp
    with_reducible rfl
  rotate_left
  · simp only [Act.put, List.setIfInBounds_toArray, List.set_cons_zero, List.set_cons_succ, i64_w, i32_w]
    rfl
  refine pure_ (i := 3) (N := some 8) (v := ?_) (a' := ?_) #[true, true, true, true, false, false, false, false, false] rfl rfl (any_of HT_.out (by kernel_rfl)) (fun _ _ _ h => h) (Or.inl ⟨by rfl, ?_⟩) ?_ ?_
  rotate_left
  · intro w'
    go_simp
    with_reducible rfl
  rotate_left
  · simp only [Act.put, List.setIfInBounds_toArray, List.set_cons_zero, List.set_cons_succ, i64_w, i32_w]
    rfl
  refine pure_ (i := 4) (N := some 9) (v := ?_) (a' := ?_) #[true, true, true, true, true, false, false, false, false] rfl rfl (any_of HT_.out (by kernel_rfl)) (fun _ _ _ h => h) (Or.inl ⟨by rfl, ?_⟩) ?_ ?_
  rotate_left
  · intro w'
    go_simp
    with_reducible rfl
  rotate_left
  · simp only [Act.put, List.setIfInBounds_toArray, List.set_cons_zero, List.set_cons_succ, i64_w, i32_w]
    rfl
  refine pure_ (i := 5) (N := some 10) (v := ?_) (a' := ?_) #[true, true, true, true, true, true, false, false, false] rfl rfl (any_of HT_.out (by kernel_rfl)) (fun _ _ _ h => h) (Or.inl ⟨by rfl, ?_⟩) ?_ ?_
  rotate_left
  · intro w'
    go_simp
    with_reducible rfl
  rotate_left
  · simp only [Act.put, List.setIfInBounds_toArray, List.set_cons_zero, List.set_cons_succ, i64_w, i32_w]
    rfl
  refine take_ (i := 6) (N := some 11) (v := ?_) (a' := ?_) #[true, true, true, true, true, true, true, false, false] rfl rfl (take_ofW HT_.out HW_.out (by kernel_rfl)) (fun _ _ _ h => h) (Or.inl ⟨by rfl, ?_⟩) hHeld ?_ ?_
  rotate_left
  · rintro w' ⟨s0, s1, s2⟩
    go_simp
    with_reducible rfl
  rotate_left
  · simp only [Act.put, List.setIfInBounds_toArray, List.set_cons_zero, List.set_cons_succ, i64_w, i32_w]
    rfl
  refine one_ (i := 7) (N := some 12) #[true, true, true, true, true, true, true, true, false] rfl rfl (one_of HT_.out (by kernel_rfl)) (by decide) (fun K hK => ?_)
  refine goes_ Tryd.func27 (by kernel_rfl) rfl #[.slice An needs.length cn, .string (rd_T34 ps i).f0] (by rfl) rfl rfl (by (try simp only [List.map_toArray, List.map_cons, List.map_nil]); first | done | rfl) ?_
  with_reducible refine (slices_Contains_string_string.calls K_ An cn needs (rd_T34 ps i).f0 _ _ (Kd.C_below HN.out (below_drew1 (Below.refl _ _))) HNC.out HCN.out).mono ?_
  rintro er w1 ⟨rfl, ⟨m1, rfl⟩⟩
  refine ⟨_, rfl, ?_⟩
  refine hK.out _ _ ⟨hcq_2, hcz_0, hi_0⟩ (fun hHeld => ?_)
  clear hK K
  refine norm_ (a' := ?_) ?_ ?_
  rotate_left
  · show Act.put _ (some 12) _ = _
    simp only [Act.put, List.setIfInBounds_toArray, List.set_cons_zero, List.set_cons_succ, i64_w, i32_w]
    rfl
  refine pure_ (i := 8) (N := some 4) (v := ?_) (a' := ?_) #[true, true, true, true, true, true, true, true, true] rfl rfl (any_of HT_.out (by kernel_rfl)) (fun _ _ _ h => h) (Or.inl ⟨by rfl, ?_⟩) ?_ ?_
  rotate_left
  · intro w'
    go_simp
    with_reducible rfl
  rotate_left
  · simp only [Act.put, List.setIfInBounds_toArray, List.set_cons_zero, List.set_cons_succ, i64_w, i32_w]
    rfl
  refine done_ (done_of HT_.out (by kernel_rfl)) ?_
  go_wp2_with (fail)
  go_ret
  exact ⟨rfl, (by repeat (first | exact Drawn0.refl _ | apply Drawn0.step))⟩
theorem waits_take {ps : List S34} {needs : List ByteArray} {l : List Int} {x : Nat} (hx : x < l.length) (h : waitsB ps needs (l.take x) = false) (hn : inB needs (nameP ps l[x]) = false) : waitsB ps needs (l.take (x + 1)) = false := by
  unfold waitsB at h ⊢
  rw [List.take_succ_eq_append_getElem hx, List.any_append, h, List.any_cons, List.any_nil, hn]
  rfl
theorem waits_at {ps : List S34} {needs : List ByteArray} {l : List Int} {x : Nat} (hx : x < l.length) (hn : inB needs (nameP ps l[x]) = true) : waitsB ps needs l = true := by
  unfold waitsB
  rw [List.any_eq_true]
  exact ⟨l[x], List.getElem_mem hx, hn⟩
theorem rd_at (l : List Int) (x : Int) (hx : x.toNat < l.length) : rd l x = l[x.toNat] := by
  unfold rd
  rw [List.getD_eq_getElem?_getD, List.getElem?_eq_getElem hx]
  rfl
set_option maxHeartbeats 16000000 in
set_option maxRecDepth 100000 in
theorem idx_calls (ps : List S34) (A1 : Option Addr) (c1 gp gq : Nat) (p0 : ByteArray) (p1 : Int) (An : Option Addr) (cn : Nat) (needs : List ByteArray) (p3 : Value) (Al : Option Addr) (cl : Nat) (l : List Int) (hr : ∀ x ∈ l, 0 ≤ x ∧ x < (ps.length : Int)) (w0 W : World) (hC : Kd.C k34 w0 A1 ps.length ps) (hg : w0.heap[gp]? = some (.cells #[.slice A1 ps.length c1] 23 (0, 0))) (hB : Below w0.heap.size w0 W) (hq : w0.heap[gq]? = some (.cells #[.string p0, .int .i64 p1, .slice An needs.length cn, p3] 34 (0, 0))) (hn : Kd.C Kd.string w0 An needs.length needs) (hnc : needs.length ≤ cn) (hnl : needs.length ≤ 1000000) (hl : Kd.C (Kd.int .i64) W Al l.length l) (hll : l.length ≤ 1000000) :
    Calls Tryd.prog 57 #[.slice Al l.length cl, .func (.func 38) #[] #[.pointer (some ⟨gq, 0, none⟩), .pointer (some ⟨gp, 0, none⟩)]] W fun e w' => (∃ r : Int, e = .returned (.int .i64 r) ∧ decide (0 ≤ r) = waitsB ps needs l) ∧ Drawn0 W w' := by
  have HC := Aside0.mk hC
  have HG := Aside0.mk hg
  have HB := Aside0.mk hB
  have HQ := Aside0.mk hq
  have HN := Aside0.mk hn
  have HNC := Aside0.mk hnc
  have HNL := Aside0.mk hnl
  have HL := Aside0.mk hl
  have HR := Aside0.mk hr
  clear hC hg hB hq hn hnc hnl hl hr
  go_enter Tryd.func57, Tryd.ntmps57
  go_wp2_with (fail)
  go_loopg [8] l.length (fun kq v8 w' => ∃ (x : Int), v8 = .int .i64 x ∧ 0 ≤ x ∧ x ≤ (l.length : Int) ∧ Aside0 ((kq : Int) + x = (l.length : Int)) ∧ Aside0 (waitsB ps needs (l.take x.toNat) = false) ∧ Drawn0 W w')
  case atStart => exact ⟨0, rfl, by omega, by omega, ⟨by omega⟩, ⟨rfl⟩, (by repeat (first | exact Drawn0.refl _ | apply Drawn0.step))⟩
  case round =>
    obtain ⟨x, rfl, p0_, p1_, HKQ, HT, ⟨m1, rfl⟩⟩ := hrel
    by_cases hlt : x < (l.length : Int)
    · have c0 : decide (x < (l.length : Int)) = true := decide_eq_true hlt
      have hxl : x.toNat < l.length := by omega
      have HRD := Aside0.mk (rd_at l x hxl)
      have HXL := Aside0.mk hxl
      have HP := Aside0.mk (show 0 ≤ rd l x ∧ rd l x < (ps.length : Int) by rw [HRD.out]; exact HR.out _ (List.getElem_mem hxl))
      obtain ⟨al, e_, hx_0⟩ := Kd.at_int HL.out x p0_ hlt
      subst e_
      replace hx_0 : (W.drewN m1).cell? (al.add x.toNat) = some (.int .i64 (rd l x)) := hx_0
      have hw1 : wrap64 (x + 1) = x + 1 := IntWalk.wrap64_in (x + 1) (by omega)
      have P0 := Aside0.mk p0_
      have P1 := Aside0.mk hlt
      replace p0_ := eq_true p0_
      replace hlt := eq_true hlt
      clear p1_
      cases hcn : inB needs (nameP ps (rd l x)) with
      | true =>
        have HW := Aside0.mk hcn
        clear hcn
        go_wp2_with (first | (go_at_call 38; (with_reducible refine (w1_calls ps A1 c1 gp gq p0 p1 An cn needs p3 (rd l x) HP.out.1 HP.out.2 w0 _ HC.out HG.out ?sideB HQ.out HN.out HNC.out HNL.out).mono ?_); (case sideB => exact (by repeat (first | (with_reducible first | exact HB.out | apply below_alloc | apply pw_below_drewN | apply below_drew1) | exact HB.out))); rintro er w1 ⟨rfl, ⟨m2, rfl⟩⟩; rw [HW.out]))
        go_ret
        exact ⟨⟨x, rfl, by rw [waits_at HXL.out (by rw [← HRD.out]; exact HW.out)]; exact decide_eq_true P0.out⟩, (by repeat (first | exact Drawn0.refl _ | apply Drawn0.step))⟩
      | false =>
        have HW := Aside0.mk hcn
        clear hcn
        go_wp2_with (first | (go_at_call 38; (with_reducible refine (w1_calls ps A1 c1 gp gq p0 p1 An cn needs p3 (rd l x) HP.out.1 HP.out.2 w0 _ HC.out HG.out ?sideB HQ.out HN.out HNC.out HNL.out).mono ?_); (case sideB => exact (by repeat (first | (with_reducible first | exact HB.out | apply below_alloc | apply pw_below_drewN | apply below_drew1) | exact HB.out))); rintro er w1 ⟨rfl, ⟨m2, rfl⟩⟩; rw [HW.out]))
        go_roundg (gk - 1)
        case measure => have := HKQ.out; have := P1.out; omega
        case rel => exact ⟨x + 1, (by first | rfl | rw [hw1]), by have := P0.out; omega, by have := P1.out; omega, ⟨by have := HKQ.out; have := P1.out; omega⟩, ⟨by
          rw [show (x + 1).toNat = x.toNat + 1 by have := P0.out; omega]
          exact waits_take HXL.out HT.out (by rw [← HRD.out]; exact HW.out)⟩, (by repeat (first | exact Drawn0.refl _ | apply Drawn0.step))⟩
    · have c0 : decide (x < (l.length : Int)) = false := decide_eq_false hlt
      have hx : x.toNat = l.length := by omega
      go_wp2_with (fail)
      go_ret
      have h1 := HT.out
      rw [hx, List.take_length] at h1
      exact ⟨⟨-1, rfl, by rw [h1]; rfl⟩, (by repeat (first | exact Drawn0.refl _ | apply Drawn0.step))⟩
set_option maxHeartbeats 16000000 in
set_option maxRecDepth 100000 in
theorem cont_calls (ps : List S34) (A1 : Option Addr) (c1 gp gq : Nat) (p0 : ByteArray) (p1 : Int) (An : Option Addr) (cn : Nat) (needs : List ByteArray) (p3 : Value) (Al : Option Addr) (cl : Nat) (l : List Int) (hr : ∀ x ∈ l, 0 ≤ x ∧ x < (ps.length : Int)) (w0 W : World) (hC : Kd.C k34 w0 A1 ps.length ps) (hg : w0.heap[gp]? = some (.cells #[.slice A1 ps.length c1] 23 (0, 0))) (hB : Below w0.heap.size w0 W) (hq : w0.heap[gq]? = some (.cells #[.string p0, .int .i64 p1, .slice An needs.length cn, p3] 34 (0, 0))) (hn : Kd.C Kd.string w0 An needs.length needs) (hnc : needs.length ≤ cn) (hnl : needs.length ≤ 1000000) (hl : Kd.C (Kd.int .i64) W Al l.length l) (hll : l.length ≤ 1000000) :
    Calls Tryd.prog 37 #[.slice Al l.length cl, .func (.func 38) #[] #[.pointer (some ⟨gq, 0, none⟩), .pointer (some ⟨gp, 0, none⟩)]] W fun e w' => e = .returned (.bool (waitsB ps needs l)) ∧ Drawn0 W w' := by
  have HC := Aside0.mk hC
  have HG := Aside0.mk hg
  have HB := Aside0.mk hB
  have HQ := Aside0.mk hq
  have HN := Aside0.mk hn
  have HNC := Aside0.mk hnc
  have HNL := Aside0.mk hnl
  have HL := Aside0.mk hl
  have HR := Aside0.mk hr
  clear hC hg hB hq hn hnc hnl hl hr
  go_enter Tryd.func37, Tryd.ntmps37
  go_wp2_with (first | (go_at_call 57; (with_reducible refine (idx_calls ps A1 c1 gp gq p0 p1 An cn needs p3 Al cl l HR.out w0 _ HC.out HG.out ?sideB HQ.out HN.out HNC.out HNL.out HL.out hll).mono ?_); (case sideB => exact (by repeat (first | (with_reducible first | exact HB.out | apply below_alloc | apply pw_below_drewN | apply below_drew1) | exact HB.out))); rintro er w1 ⟨⟨r_, rfl, hr_⟩, ⟨m2, rfl⟩⟩))
  go_ret
  exact ⟨by first | (rw [← hr_]; rfl) | rfl, (by repeat (first | exact Drawn0.refl _ | apply Drawn0.step))⟩
set_option maxHeartbeats 16000000 in
set_option maxRecDepth 100000 in
theorem waits_calls (ps : List S34) (A1 : Option Addr) (c1 : Nat) (p0 : ByteArray) (p1 : Int) (An : Option Addr) (cn : Nat) (needs : List ByteArray) (A3 : Option Addr) (n3 c3 : Nat) (Al : Option Addr) (cl : Nat) (l : List Int) (hr : ∀ x ∈ l, 0 ≤ x ∧ x < (ps.length : Int)) (w : World) (hC : Kd.C k34 w A1 ps.length ps) (hn : Kd.C Kd.string w An needs.length needs) (hnc : needs.length ≤ cn) (hnl : needs.length ≤ 1000000) (hl : Kd.C (Kd.int .i64) w Al l.length l) (hll : l.length ≤ 1000000) :
    Calls Tryd.prog 23 #[.agg #[.string p0, .int .i64 p1, .slice An needs.length cn, .slice A3 n3 c3], .slice Al l.length cl, .slice A1 ps.length c1] w fun e w' => e = .returned (.bool (waitsB ps needs l)) ∧ Below w.heap.size w w' := by
  have hu34 := Tryd.underlying34
  have HC := Aside0.mk hC
  have HN := Aside0.mk hn
  have HNC := Aside0.mk hnc
  have HNL := Aside0.mk hnl
  have HL := Aside0.mk hl
  have HR := Aside0.mk hr
  have HB := Aside0.mk (Below.refl w.heap.size w)
  clear hC hn hnc hnl hl hr
  go_enter Tryd.func23, Tryd.ntmps23
  go_wp2_with (first | ((with_reducible refine gate_dst (N := 3) rfl ?_); refine box_event ?hg (N := 3) ?hd (cs := #[.string p0, .int .i64 p1, .slice An needs.length cn, .slice A3 n3 c3]) (t := 34) ?hr ?_; (case hd => rfl); (case hg => rfl); (case hr => first | (go_simp; done) | (go_simp; rfl)); intro gq hg_ wq hbox hb; have n0_ := Aside0.mk (below_step HB.out hb); have HQ := Aside0.mk hbox; clear HB hbox hb hg_; have HB := n0_; clear n0_) | ((with_reducible refine gate_dst (N := 5) rfl ?_); refine box_event ?hg (N := 5) ?hd (cs := #[.slice A1 ps.length c1]) (t := 23) ?hr ?_; (case hd => rfl); (case hg => rfl); (case hr => first | (go_simp; done) | (go_simp; rfl)); intro gp hg_ wp hbox hb; have n0_ := Aside0.mk (below_step HB.out hb); have n1_ := Aside0.mk (blk_below HQ.out hb); have HG := Aside0.mk hbox; clear HB HQ hbox hb hg_; have HB := n0_; have HQ := n1_; clear n0_ n1_) | (go_at_call 37; (with_reducible refine (cont_calls ps A1 c1 gp gq p0 p1 An cn needs (.slice A3 n3 c3) Al cl l HR.out wp _ (Kd.C_below HC.out HB.out) HG.out ?sideB HQ.out (Kd.C_below HN.out HB.out) HNC.out HNL.out ?sideL hll).mono ?_); (case sideB => exact (by repeat (first | (with_reducible first | exact Below.refl _ _ | apply pw_below_drewN | apply below_drew1) | exact Below.refl _ _))); (case sideL => exact Kd.C_below HL.out (by repeat (first | (with_reducible first | exact HB.out | apply below_alloc | apply pw_below_drewN | apply below_drew1) | exact HB.out))); rintro er w1 ⟨rfl, ⟨m2, rfl⟩⟩))
  go_ret
  exact ⟨rfl, (by repeat (first | (with_reducible first | exact HB.out | apply below_alloc | apply pw_below_drewN | apply below_drew1) | exact HB.out))⟩
set_option maxHeartbeats 16000000 in
set_option maxRecDepth 100000 in
theorem ins_nil (gp : Nat) (w : World) : Calls Tryd.prog 47 #[.slice none 0 0, .int .i64 0, .int .i64 0, .func (.func 22) #[] #[.pointer (some ⟨gp, 0, none⟩)]] w fun e w' => e = .returned (.tuple #[]) ∧ Drawn0 w w' := by
  go_enter Tryd.func47, Tryd.ntmps47
  go_wp2_with (fail)
  go_loopg [8] 0 (fun kq v8 w' => v8 = .int .i64 1 ∧ Drawn0 w w')
  case atStart => exact ⟨rfl, (by repeat (first | exact Drawn0.refl _ | apply Drawn0.step))⟩
  case round =>
    obtain ⟨rfl, ⟨m1, rfl⟩⟩ := hrel
    go_wp2_with (fail)
    first | go_end0 | ((try simp only [Exit.inBlock, Exit.then]); refine bodyPost_ret (results_none rfl _ _ _) rfl ?_)
    exact ⟨rfl, (by repeat (first | exact Drawn0.refl _ | apply Drawn0.step))⟩
set_option maxHeartbeats 16000000 in
set_option maxRecDepth 100000 in
theorem pdq_nil (gp : Nat) (z : Int) (w : World) : Calls Tryd.prog 35 #[.slice none 0 0, .int .i64 0, .int .i64 0, .int .i64 z, .func (.func 22) #[] #[.pointer (some ⟨gp, 0, none⟩)]] w fun e w' => e = .returned (.tuple #[]) ∧ Drawn0 w w' := by
  go_enter Tryd.func35, Tryd.ntmps35
  go_wp2_with (fail)
  go_loopg [1, 2] 0 (fun kq v1 v2 w' => v1 = .int .i64 0 ∧ v2 = .int .i64 0 ∧ Drawn0 w w')
  case atStart => exact ⟨rfl, rfl, (by repeat (first | exact Drawn0.refl _ | apply Drawn0.step))⟩
  case round =>
    obtain ⟨rfl, rfl, ⟨m1, rfl⟩⟩ := hrel
    go_wp2_with (first | (go_at_call 47; (with_reducible refine (ins_nil gp _).mono ?_); rintro er w1 ⟨rfl, ⟨m2, rfl⟩⟩))
    first | go_end0 | ((try simp only [Exit.inBlock, Exit.then]); refine bodyPost_ret (results_none rfl _ _ _) rfl ?_)
    exact ⟨rfl, (by repeat (first | exact Drawn0.refl _ | apply Drawn0.step))⟩
set_option maxHeartbeats 16000000 in
set_option maxRecDepth 100000 in
theorem sort_nil (gp : Nat) (w : World) : Calls Tryd.prog 21 #[.slice none 0 0, .func (.func 22) #[] #[.pointer (some ⟨gp, 0, none⟩)]] w fun e w' => e = .returned (.tuple #[]) ∧ Drawn0 w w' := by
  have hu0 : IntKind.u64.wrap 0 = 0 := by decide
  go_enter Tryd.func21, Tryd.ntmps21
  go_wp2_with (first | (go_at_call 36; (with_reducible refine (Tryd.bits_Len 0 _ (by decide) (by decide)).mono ?_); rintro er w1 ⟨rfl, rfl⟩) | (go_at_call 35; (with_reducible refine (pdq_nil gp _ _).mono ?_); rintro er w2 ⟨rfl, ⟨m2, rfl⟩⟩))
  first | go_end0 | ((try simp only [Exit.inBlock, Exit.then]); refine bodyPost_ret (results_none rfl _ _ _) rfl ?_)
  exact ⟨rfl, (by repeat (first | exact Drawn0.refl _ | apply Drawn0.step))⟩
theorem infoI_ : ((Tryd.prog.info? 3).map (fun i => (i.zero, i.size, i.bytes))) = some (some (.int .i64 0), 1, 8) := by kernel_rfl
theorem less_trans : ∀ a b c : List UInt8, Op.bytesLess a b = true → Op.bytesLess b c = true → Op.bytesLess a c = true
  | _, [], _, h, _ => by simp [Op.bytesLess] at h
  | _, _ :: _, [], _, h => by simp [Op.bytesLess] at h
  | [], _ :: _, _ :: _, _, _ => rfl
  | a :: x, b :: y, c :: z, h, h' => by
    unfold Op.bytesLess at h h' ⊢
    simp only [Bool.or_eq_true, Bool.and_eq_true, decide_eq_true_eq, beq_iff_eq] at h h' ⊢
    rcases h with h | ⟨rfl, h⟩
    · rcases h' with h' | ⟨rfl, h'⟩
      · exact Or.inl (by rw [UInt8.lt_iff_toNat_lt] at *; omega)
      · exact Or.inl h
    · rcases h' with h' | ⟨rfl, h'⟩
      · exact Or.inl h'
      · exact Or.inr ⟨rfl, less_trans x y z h h'⟩
theorem less_eq (a b : List UInt8) (h : Op.bytesLess a b = false) (h' : Op.bytesLess b a = false) : a = b := by
  have := Nm.less_turn a b
  rw [h, h', Bool.false_or] at this
  simpa using this
theorem less_ntrans (a b c : List UInt8) (h : Op.bytesLess a b = false) (h' : Op.bytesLess b c = false) : Op.bytesLess a c = false := by
  cases hac : Op.bytesLess a c with
  | false => rfl
  | true =>
    cases hba : Op.bytesLess b a with
    | true => rw [less_trans b a c hba hac] at h'; cases h'
    | false => rw [less_eq a b h hba] at hac; rw [hac] at h'; cases h'
theorem lt_cmp (ps : List S34) (x y : Int) : decide (cmpN ps x y < 0) = Op.bytesLess (nameP ps x).toList (nameP ps y).toList := by
  unfold cmpN
  cases h : Op.bytesLess (nameP ps x).toList (nameP ps y).toList with
  | true => rfl
  | false => rfl
theorem swo_cmp (ps : List S34) : Sort.SWO (@ltOf (Fin ps.length) fun x y => cmpN ps (x.val : Int) (y.val : Int)) where
  irrefl x := (lt_cmp ps _ _).trans (Nm.less_irrefl _)
  trans x y z h h' := (lt_cmp ps _ _).trans (less_trans _ _ _ ((lt_cmp ps _ _).symm.trans h) ((lt_cmp ps _ _).symm.trans h'))
  ntrans x y z h h' := (lt_cmp ps _ _).trans (less_ntrans _ _ _ ((lt_cmp ps _ _).symm.trans h) ((lt_cmp ps _ _).symm.trans h'))
/-- The plan: again and again the first of those that are left that waits for none of them; if none is free, the first one's name. -/
def free (ps : List S34) (left : List Int) (i : Int) : Bool := !waitsB ps (rd_T34 ps i).f2 left
def planF (ps : List S34) : Nat → List Int → List Int → List Int × Int × ByteArray
  | 0, _, out => (out, 0, ⟨#[]⟩)
  | f + 1, left, out => match left.findIdx? (free ps left) with
    | some at_ => planF ps f (left.eraseIdx at_) (out ++ [left.getD at_ 0])
    | none => ([], 71, nameP ps (left.getD 0 0))
def planR (ps : List S34) (l : List Int) : List Int × Int × ByteArray := planF ps l.length l []
theorem planF_free {ps : List S34} {left out : List Int} {x : Nat} (hx : x < left.length) (h : ∀ j, j < x → free ps left (left.getD j 0) = false) (hf : free ps left (left.getD x 0) = true) :
    planF ps left.length left out = planF ps (left.eraseIdx x).length (left.eraseIdx x) (out ++ [left.getD x 0]) := by
  have hl : (left.eraseIdx x).length = left.length - 1 := by rw [List.length_eraseIdx, if_pos hx]
  obtain ⟨m, hm⟩ : ∃ m, left.length = m + 1 := ⟨left.length - 1, by omega⟩
  have hi : left.findIdx? (free ps left) = some x := by
    rw [List.findIdx?_eq_some_iff_getElem]
    refine ⟨hx, ?_, fun j hj => ?_⟩
    · rw [List.getD_eq_getElem?_getD, List.getElem?_eq_getElem hx] at hf
      exact hf
    · have := h j hj
      rw [List.getD_eq_getElem?_getD, List.getElem?_eq_getElem (by omega)] at this
      simpa using this
  rw [hl, hm]
  show (match left.findIdx? (free ps left) with
    | some at_ => planF ps m (left.eraseIdx at_) (out ++ [left.getD at_ 0])
    | none => ([], 71, nameP ps (left.getD 0 0))) = _
  rw [hi]
  rfl
theorem planF_stuck {ps : List S34} {left out : List Int} (hx : 0 < left.length) (h : ∀ j, j < left.length → free ps left (left.getD j 0) = false) : planF ps left.length left out = ([], 71, nameP ps (left.getD 0 0)) := by
  obtain ⟨m, hm⟩ : ∃ m, left.length = m + 1 := ⟨left.length - 1, by omega⟩
  have hi : left.findIdx? (free ps left) = none := by
    rw [List.findIdx?_eq_none_iff]
    intro y hy
    obtain ⟨j, hj, rfl⟩ := List.getElem_of_mem hy
    have := h j hj
    rw [List.getD_eq_getElem?_getD, List.getElem?_eq_getElem hj] at this
    exact this
  rw [hm]
  show (match left.findIdx? (free ps left) with
    | some at_ => planF ps m (left.eraseIdx at_) (out ++ [left.getD at_ 0])
    | none => ([], 71, nameP ps (left.getD 0 0))) = _
  rw [hi]
set_option maxHeartbeats 16000000 in
set_option maxRecDepth 100000 in
theorem order_err (k : Nat) (A0 : Option Addr) (c0 : Nat) (th : List ByteArray) (A1 : Option Addr) (c1 : Nat) (ps : List S34) (n : ByteArray) (w : World) (hr0 : Kd.C Kd.string w A0 th.length th) (hc0 : th.length ≤ c0) (hr1 : Kd.C k34 w A1 ps.length ps) (hc1 : ps.length ≤ c1) (e : Int) (he : e ≠ 0) (hf : plan_first.f k th ps = some (e, n)) :
    Calls Tryd.prog 10 #[.slice A0 th.length c0, .slice A1 ps.length c1] w fun r w' => r = .returned (.tuple #[.slice none 0 0, .int .i64 e, .string n]) ∧ Below w.heap.size w w' := by
  have HR0 := Aside0.mk hr0
  have HC0 := Aside0.mk hc0
  have HR1 := Aside0.mk hr1
  have HC1 := Aside0.mk hc1
  have HF := Aside0.mk hf
  have HB := Aside0.mk (Below.refl w.heap.size w)
  clear hr0 hc0 hr1 hc1 hf
  have hea : (e != 0) = true := bne_iff_ne.mpr he
  clear he
  go_enter Tryd.func10, Tryd.ntmps10
  go_wp2_with (first | ((with_reducible refine gate_dst (N := 3) rfl ?_); refine box_event ?hg (N := 3) ?hd (cs := #[.slice A1 ps.length c1]) (t := 23) ?hr ?_; (case hd => rfl); (case hg => rfl); (case hr => first | (go_simp; done) | (go_simp; rfl)); intro gp hg_ wp hbox hb; have n0_ := Aside0.mk (below_step HB.out hb); have HG := Aside0.mk hbox; clear HB hbox hb hg_; have HB := n0_; clear n0_; have hcz_0 : wp.cell? ⟨gp, 0, none⟩ = some (.slice A1 ps.length c1) := (blk_cell HG.out 0).trans rfl))
  apply wp_scope_straight
  go_wp2_with (first | (go_at_call 20; (with_reducible refine (plan_first.calls k A0 c0 th A1 c1 ps e n _ ?side1 HC0.out ?side2 HC1.out HF.out).mono ?_); (case side1 => exact Kd.C_below HR0.out HB.out); (case side2 => exact Kd.C_below HR1.out HB.out); rintro er wf ⟨rfl, hb⟩; have n0_ := Aside0.mk (below_step HB.out hb); have n1_ := Aside0.mk (blk_below HG.out hb); clear HB HG hb hcz_0; have HB := n0_; have HG := n1_; clear n0_ n1_; have hcz_0 : wf.cell? ⟨gp, 0, none⟩ = some (.slice A1 ps.length c1) := (blk_cell HG.out 0).trans rfl))
  try simp only [Exit.inBlock, Exit.then, Exit.noGoto_ret]
  go_ret3
  exact ⟨rfl, (by repeat (first | (with_reducible first | exact HB.out | apply below_alloc | apply pw_below_drewN | apply below_drew1) | exact HB.out))⟩
/-- The packages' numbers, by their names. -/
def sortL (ps : List S34) : List Int := if h : 0 < ps.length then (sortF ps.length h fun x y => cmpN ps (x.val : Int) (y.val : Int)).map fun i => (i.val : Int) else []
theorem drawn_q {w w' : World} (h : Drawn0 w w') : ∃ q, w' = w.drewN q := by
  obtain ⟨m, rfl⟩ := h
  exact ⟨m, rfl⟩
theorem below_grown {w0 w w1 : World} {v : Value} {xs : List Int} {ok : Nat → Prop} (h : Below w0.heap.size w0 w) (ho : Kd.R (Kd.int .i64) 3 w w0.heap.size ok v xs) (hg : w.grownBy w1 v.ownBlock) : Below w0.heap.size w0 w1 :=
  ⟨hg.os.trans h.os, hg.tape.trans h.tape, hg.output.trans h.output, Nat.le_trans h.size hg.size, fun i hi => (hg.block i (Nat.lt_of_lt_of_le hi h.size) (fun he => by
    obtain ⟨b0, inner, hw, hm⟩ := ho
    rcases hw.2 with ⟨rfl, _⟩ | ⟨g, cap, cur, rfl, hb, r⟩
    · cases he
    · have : i = g := by simpa [Value.ownBlock] using he
      omega)).trans (h.block i hi)⟩
theorem row_block {w : World} {base : Nat} {ok : Nat → Prop} {v : Value} {xs : List Int} (h : Kd.R (Kd.int .i64) 3 w base ok v xs) (hl : 0 < xs.length) : ∃ g, v.ownBlock = some g := by
  rcases (own_of_Rn h).2 with ⟨_, h0⟩ | ⟨g, cap, cur, rfl, _⟩
  · omega
  · exact ⟨g, rfl⟩
theorem row_lt {w : World} {base g : Nat} {ok : Nat → Prop} {v : Value} {xs : List Int} (h : Kd.R (Kd.int .i64) 3 w base ok v xs) (hg : v.ownBlock = some g) : g < w.heap.size := by
  obtain ⟨cells, hc⟩ := own_typed (own_of_Rn h) g hg
  exact blk_lt hc
theorem pair_of {ps : List S34} {L : List (Fin ps.length)} (h : L.Pairwise (fun a b => ltOf (fun x y : Fin ps.length => cmpN ps (x.val : Int) (y.val : Int)) b a = false)) : L.Pairwise (fun a b => Op.bytesLess (nameP ps (b.val : Int)).toList (nameP ps (a.val : Int)).toList = false) :=
  h.imp (fun hh => (lt_cmp ps _ _).symm.trans hh)
theorem range_fin (n : Nat) : (List.range n).map (fun i : Nat => (i : Int)) = (List.finRange n).map fun i : Fin n => (i.val : Int) := by
  apply List.ext_getElem
  · simp
  · intro i h1 h2
    simp
def pord.T15 : Bool × List (List Nat × List Nat) := (true, [([], []), ([], []), ([0, 1], [0, 1]), ([2], [2]), ([], []), ([], []), ([3, 4, 5], [3, 4, 5]), ([6], [6])])
def pord.B15 : List Nat := [0, 0, 3, 7, 0, 0, 63, 127]
theorem pord.tab15 : rtab .any (opsOf Tryd.f10 15) = pord.T15 := by kernel_rfl
theorem pord.bits15 : waitsOk pord.T15.2 pord.B15 = true := by kernel_rfl
def pord.T19 : Bool × List (List Nat × List Nat) := (true, [([], []), ([], []), ([1], [1]), ([2], [2]), ([0, 3], [0, 3]), ([4], [4]), ([5], [5]), ([], []), ([7, 7], []), ([6, 8, 0, 1, 2, 3, 4, 5, 6, 7, 8], [6])])
def pord.B19 : List Nat := [0, 0, 2, 6, 15, 31, 63, 0, 128, 511]
theorem pord.tab19 : rtab .any (opsOf Tryd.f10 19) = pord.T19 := by kernel_rfl
theorem pord.bits19 : waitsOk pord.T19.2 pord.B19 = true := by kernel_rfl
set_option maxHeartbeats 16000000 in
set_option maxRecDepth 100000 in
theorem order_good (k : Nat) (A0 : Option Addr) (c0 : Nat) (th : List ByteArray) (A1 : Option Addr) (c1 : Nat) (ps : List S34) (n : ByteArray) (w : World) (hr0 : Kd.C Kd.string w A0 th.length th) (hc0 : th.length ≤ c0) (hr1 : Kd.C k34 w A1 ps.length ps) (hc1 : ps.length ≤ c1) (hf : plan_first.f k th ps = some (0, n)) (h12 : ps.length ≤ 12) (hnl : ∀ x ∈ ps, x.f2.length ≤ 1000000) :
    Calls Tryd.prog 10 #[.slice A0 th.length c0, .slice A1 ps.length c1] w fun r w' => ∃ (vv : Value), r = .returned (.tuple #[vv, .int .i64 (planR ps (sortL ps)).2.1, .string (planR ps (sortL ps)).2.2]) ∧ Kd.R (Kd.int .i64) 3 w' w.heap.size (fun _ => True) vv (planR ps (sortL ps)).1 ∧ Below w.heap.size w w' := by
  have HR0 := Aside0.mk hr0
  have HC0 := Aside0.mk hc0
  have HR1 := Aside0.mk hr1
  have HC1 := Aside0.mk hc1
  have HF := Aside0.mk hf
  have HB := Aside0.mk (Below.refl w.heap.size w)
  clear hr0 hc0 hr1 hc1 hf
  have H12 := Aside0.mk h12
  have HNL := Aside0.mk hnl
  clear hnl
  go_enter Tryd.func10, Tryd.ntmps10
  go_wp2_with (first | ((with_reducible refine gate_dst (N := 3) rfl ?_); refine box_event ?hg (N := 3) ?hd (cs := #[.slice A1 ps.length c1]) (t := 23) ?hr ?_; (case hd => rfl); (case hg => rfl); (case hr => first | (go_simp; done) | (go_simp; rfl)); intro gp hg_ wp hbox hb; have n0_ := Aside0.mk (below_step HB.out hb); have HG := Aside0.mk hbox; clear HB hbox hb hg_; have HB := n0_; clear n0_; have hcz_0 : wp.cell? ⟨gp, 0, none⟩ = some (.slice A1 ps.length c1) := (blk_cell HG.out 0).trans rfl))
  apply wp_scope_straight
  go_upto_region 4 with (first | (go_at_call 20; (with_reducible refine (plan_first.calls k A0 c0 th A1 c1 ps 0 n _ ?side1 HC0.out ?side2 HC1.out HF.out).mono ?_); (case side1 => exact Kd.C_below HR0.out HB.out); (case side2 => exact Kd.C_below HR1.out HB.out); rintro er wf ⟨rfl, hb⟩; have n0_ := Aside0.mk (below_step HB.out hb); have n1_ := Aside0.mk (blk_below HG.out hb); clear HB HG hb hcz_0; have HB := n0_; have HG := n1_; clear n0_ n1_; have hcz_0 : wf.cell? ⟨gp, 0, none⟩ = some (.slice A1 ps.length c1) := (blk_cell HG.out 0).trans rfl))
  have HBW := HB
  have HCF := Aside0.mk (Kd.C_below HR1.out HB.out)
  have HGF := HG
  clear HB HR0 HR1 HG HF
  have HB := Aside0.mk (Below.refl wf.heap.size wf)
  go_wp2_with (fail)
  go_loopg [9, 26] ps.length (fun kq v9 v26 w' => ∃ (x : Nat), v26 = .int .i64 (x : Int) ∧ x ≤ ps.length ∧ Aside0 (kq + x = ps.length) ∧ Aside0 (x = 0 → v9 = .slice none 0 0) ∧ Aside0 (Kd.R (Kd.int .i64) 3 w' wf.heap.size (fun _ => True) v9 ((List.range x).map fun i : Nat => (i : Int))) ∧ Aside0 (Below wf.heap.size wf w'))
  case atStart => exact ⟨0, rfl, Nat.zero_le _, ⟨rfl⟩, ⟨fun _ => rfl⟩, ⟨Kd.R_nil _ _ _ _ _⟩, ⟨(by repeat (first | (with_reducible first | exact HB.out | apply below_alloc | apply pw_below_drewN | apply below_drew1) | exact HB.out))⟩⟩
  case round =>
    clear HB hcz_0
    obtain ⟨x, rfl, p1, HKQ, HNIL, HO, HB⟩ := hrel
    have hcz_0 : wr.cell? ⟨gp, 0, none⟩ = some (.slice A1 ps.length c1) := (blk_cell (blk_below HGF.out HB.out) 0).trans rfl
    by_cases hlt : x < ps.length
    · have c0 : decide ((x : Int) < (ps.length : Int)) = true := decide_eq_true (by omega)
      have HX := Aside0.mk (show x ≤ 12 by omega)
      have hw1 : wrap64 ((x : Int) + 1) = ((x + 1 : Nat) : Int) := by rw [IntWalk.wrap64_in _ (by omega)]; omega
      go_wp2_with (first | ((with_reducible refine gate_builtin (b := .append) (xs := #[.tmp 29, .tmp 31]) rfl ?_); at_builtin; refine Kd.R_append (Kd.int .i64) (w0 := wf) wf.heap.size rfl (.tmp 29) (.tmp 31) 27 3 (.int .i64 0) 8 rfl Tryd.underlying27 infoI_ rfl (by decide) (by decide) u9 ((List.range x).map fun i : Nat => (i : Int)) (x : Int) [.int .i64 (x : Int)] (fun _ => True) (fun _ => False) rfl rfl ?aP (fun _ hk => hk.elim) (fun _ _ => trivial) HO.out HB.out HB.out.size ?aL ?_; (case aP => exact rfl); (case aL => rw [List.length_map, List.length_range]; have := HX.out; omega); intro v9 w9 ho hb_ hg_ hat_; have n0_ := Aside0.mk ho; have n1_ := Aside0.mk hb_; clear HO HB ho hb_ hg_ hat_; have HO := n0_; have HB := n1_; clear n0_ n1_))
      go_roundg (gk - 1)
      case measure => have := HKQ.out; omega
      case rel => exact ⟨x + 1, (by first | rfl | rw [hw1]), by omega, ⟨by have := HKQ.out; omega⟩, ⟨fun h => absurd h (by omega)⟩, ⟨by rw [List.range_succ, List.map_append]; exact HO.out⟩, HB⟩
    · have c0 : decide ((x : Int) < (ps.length : Int)) = false := decide_eq_false (by omega)
      have hx : x = ps.length := by omega
      subst hx
      clear c0 hlt
      rcases Nat.eq_zero_or_pos ps.length with hz | hpos
      · obtain rfl := HNIL.out hz
        go_wp2_with (first | (go_at_call 21; (with_reducible refine (sort_nil gp _).mono ?_); rintro er w1 ⟨rfl, ⟨m1, rfl⟩⟩))
        apply wp_label
        go_wp2_with (fail)
        clear hcz_0
        go_loopg [9, 10] 0 (fun kq v9 v10 w' => v9 = .slice none 0 0 ∧ v10 = .slice none 0 0 ∧ Aside0 (Below wf.heap.size wf w'))
        case atStart => exact ⟨rfl, rfl, ⟨(by repeat (first | (with_reducible first | exact HB.out | apply below_alloc | apply pw_below_drewN | apply below_drew1) | exact HB.out))⟩⟩
        case round =>
          clear HB
          obtain ⟨rfl, rfl, HB⟩ := hrel
          go_wp2_with (fail)
          try simp only [Exit.inBlock, Exit.then, Exit.noGoto_ret]
          go_ret3
          rw [show sortL ps = [] by unfold sortL; rw [dif_neg (by omega)]]
          exact ⟨.slice none 0 0, rfl, Kd.R_nil _ _ _ _ _, below_step HBW.out (by repeat (first | (with_reducible first | exact HB.out | apply below_alloc | apply pw_below_drewN | apply below_drew1) | exact HB.out))⟩
      · have HN0 := Aside0.mk hpos
        have HO2 := Aside0.mk (show Kd.R (Kd.int .i64) 3 wr wf.heap.size (fun k => True) u9 ((List.finRange ps.length).map fun i : Fin ps.length => (i.val : Int)) by rw [← range_fin]; exact HO.out)
        clear HO
        have HO := HO2
        clear HO2 HNIL HKQ p1
        obtain ⟨ad, _, _, _, _, ea_, _⟩ := at_T34 HCF.out 0 (by omega) (by omega)
        subst ea_
        go_wp2_with (first | (go_at_call 21; (with_reducible refine (sort_R ps.length HN0.out H12.out (fun x y => cmpN ps (x.val : Int) (y.val : Int)) (swo_cmp ps) #[.pointer (some ⟨gp, 0, none⟩)] _ wf.heap.size (fun _ => True) u9 ?sideS ?sideO ?sideC).mono ?_); (case sideS => exact HB.out.size); (case sideO => exact HO.out); (case sideC => exact (fun W x y hW => (cmp_calls ps (some ad) c1 gp (x.val : Int) (y.val : Int) (by omega) (by have := x.isLt; omega) (by omega) (by have := y.isLt; omega) wf W HCF.out HGF.out (Below.trans (by repeat (first | (with_reducible first | exact HB.out | apply below_alloc | apply pw_below_drewN | apply below_drew1) | exact HB.out)) hW)).mono (fun _ _ hh => ⟨hh.1, drawn_q hh.2⟩))); rintro er w1 ⟨rfl, L, hL_, hp, hs, ho, hg⟩; have HLE := Aside0.mk (show sortL ps = L.map fun i : Fin ps.length => (i.val : Int) from (by unfold sortL; rw [dif_pos HN0.out, hL_])); clear hL_; have HPERM := Aside0.mk hp; have HPAIR := Aside0.mk hs; have n0_ := Aside0.mk ho; have n1_ := Aside0.mk (below_grown (by repeat (first | (with_reducible first | exact HB.out | apply below_alloc | apply pw_below_drewN | apply below_drew1) | exact HB.out)) HO.out hg); clear HO HB hp hs ho hg; have HO := n0_; have HB := n1_; clear n0_ n1_))
        apply wp_label
        go_wp2_with (fail)
        have HLL := Aside0.mk (show (L.map fun i : Fin ps.length => (i.val : Int)).length = ps.length by rw [List.length_map, HPERM.out.length_eq, List.length_finRange])
        obtain ⟨gl, hgl⟩ := row_block HO.out (by rw [HLL.out]; exact hpos)
        have HOL0 := Aside0.mk (R_of_ownn (own_of_Rn HO.out) (ok := fun k => k = gl) (fun k hk => by rw [hgl] at hk; exact (Option.some.inj hk).symm))
        have HGL0 := Aside0.mk (row_lt HO.out hgl)
        clear HO hgl
        go_loopg [9, 10] ps.length (fun kq v9 v10 w' => ∃ (left out : List Int), Aside0 (kq = left.length) ∧ Aside0 (Kd.R (Kd.int .i64) 3 w' wf.heap.size (fun k => k = gl) v9 left) ∧ Aside0 (Kd.R (Kd.int .i64) 3 w' wf.heap.size (fun k => k ≠ gl) v10 out) ∧ Aside0 (Below wf.heap.size wf w') ∧ Aside0 (gl < w'.heap.size) ∧ Aside0 (∀ x ∈ left, 0 ≤ x ∧ x < (ps.length : Int)) ∧ Aside0 (left.length + out.length ≤ 12) ∧ Aside0 (planF ps left.length left out = planR ps (L.map fun i : Fin ps.length => (i.val : Int))))
        case atStart => exact ⟨_, [], ⟨HLL.out.symm⟩, HOL0, ⟨Kd.R_nil _ _ _ _ _⟩, ⟨(by repeat (first | (with_reducible first | exact HB.out | apply below_alloc | apply pw_below_drewN | apply below_drew1) | exact HB.out))⟩, HGL0, ⟨fun x hx => by
          obtain ⟨i, _, rfl⟩ := List.mem_map.1 hx
          exact ⟨by omega, by have := i.isLt; omega⟩⟩, ⟨by have := HLL.out; have := H12.out; simp only [List.length_nil]; omega⟩, ⟨rfl⟩⟩
        case round =>
          clear HB HOL0 HGL0 hcz_0
          obtain ⟨left, out, HKO, HOL, HOO, HB, HGL, HRG, HLEN, HPL⟩ := hrel
          have hcz_0 : wr.cell? ⟨gp, 0, none⟩ = some (.slice (some ad) ps.length c1) := (blk_cell (blk_below HGF.out HB.out) 0).trans rfl
          obtain ⟨Al, cl, rfl, hll, hCl⟩ := Kd.R_reads HOL.out
          by_cases hlt : 0 < left.length
          · have c0 : decide ((0 : Int) < (left.length : Int)) = true := decide_eq_true (by omega)
            obtain ⟨al, e0_, ha_0⟩ := Kd.at_int hCl 0 (by omega) (by omega)
            subst e0_
            clear ha_0 hCl hll
            have HT0 := Aside0.mk hlt
            have c0' : decide (0 < left.length) = true := decide_eq_true hlt
            have c0'' : (0 < left.length) = True := eq_true hlt
            clear hlt
            go_wp2_with (fail)
            clear c0 c0' c0''
            go_loopg [9, 10, 42] left.length (fun kq v9 v10 v42 w' => ∃ (x : Nat), v42 = .int .i64 (x : Int) ∧ v9 = .slice (some al) left.length cl ∧ v10 = u10 ∧ x ≤ left.length ∧ Aside0 (kq + x = left.length) ∧ Aside0 (∀ j, j < x → free ps left (left.getD j 0) = false) ∧ Aside0 (Kd.R (Kd.int .i64) 3 w' wf.heap.size (fun k => k = gl) (.slice (some al) left.length cl) left) ∧ Aside0 (Kd.R (Kd.int .i64) 3 w' wf.heap.size (fun k => k ≠ gl) u10 out) ∧ Aside0 (Below wf.heap.size wf w') ∧ Aside0 (gl < w'.heap.size))
            case atStart => exact ⟨0, rfl, rfl, rfl, Nat.zero_le _, ⟨rfl⟩, ⟨fun j hj => absurd hj (Nat.not_lt_zero _)⟩, HOL, HOO, ⟨(by repeat (first | (with_reducible first | exact HB.out | apply below_alloc | apply pw_below_drewN | apply below_drew1) | exact HB.out))⟩, HGL⟩
            case round =>
              clear HOL HOO HB HGL hcz_0
              obtain ⟨x, rfl, rfl, rfl, p1, HKQ, HFR, HOL, HOO, HB, HGL⟩ := hrel
              by_cases hx : x < left.length
              · have c0 : decide ((x : Int) < (left.length : Int)) = true := decide_eq_true (by omega)
                have HEL := Aside0.mk (show 0 ≤ rd left (x : Int) ∧ rd left (x : Int) < (ps.length : Int) by rw [rd_at left (x : Int) (by omega)]; exact HRG.out _ (List.getElem_mem _))
                obtain ⟨al', e1_, hx_0⟩ := Kd.at_int (Kd.R_reads' HOL.out).2.2 (x : Int) (by omega) (by omega)
                cases e1_
                obtain ⟨ad', A2, c2, A3, c3, e2_, hq0, hq1, hq2, hq3, hl2, hi2, hl3, hi3⟩ := at_T34 HCF.out (rd left (x : Int)) HEL.out.1 HEL.out.2
                cases e2_
                have HQ0 := Aside0.mk hq0
                have HQ1 := Aside0.mk hq1
                have HQ2 := Aside0.mk hq2
                have HQ3 := Aside0.mk hq3
                have HL2 := Aside0.mk hl2
                have HI2 := Aside0.mk hi2
                have hw1 : wrap64 ((x : Int) + 1) = ((x + 1 : Nat) : Int) := by rw [IntWalk.wrap64_in _ (by have := HLEN.out; omega)]; omega
                have HNI := Aside0.mk (show (rd_T34 ps (rd left (x : Int))).f2.length ≤ 1000000 by unfold rd_T34; rw [List.getD_eq_getElem?_getD, List.getElem?_eq_getElem (by have := HEL.out; omega)]; exact HNL.out _ (List.getElem_mem _))
                clear hq0 hq1 hq2 hq3 hl2 hi2 hl3 hi3
                have hcz_0 : wr.cell? ⟨gp, 0, none⟩ = some (.slice (some ad) ps.length c1) := (blk_cell (blk_below HGF.out HB.out) 0).trans rfl; have q_0 := (HB.out.cell (World.block_lt_of_cell? wf _ HQ0.out)).trans HQ0.out; have q_1 := (HB.out.cell (World.block_lt_of_cell? wf _ HQ1.out)).trans HQ1.out; have q_2 := (HB.out.cell (World.block_lt_of_cell? wf _ HQ2.out)).trans HQ2.out; have q_3 := (HB.out.cell (World.block_lt_of_cell? wf _ HQ3.out)).trans HQ3.out
                have hxx_ : (0 ≤ (x : Int)) = True := eq_true (by omega)
                have hxy_ : ((x : Int) < (left.length : Int)) = True := eq_true (by omega)
                have hxv_ : (x < left.length) = True := eq_true hx
                have hx_1 : wr.cell? (al.add x) = some (.int .i64 (rd left (x : Int))) := by rw [Int.toNat_natCast] at hx_0; exact hx_0
                have hxz_ : (0 ≤ rd left (x : Int)) = True := eq_true HEL.out.1
                have hxw_ : (rd left (x : Int) < (ps.length : Int)) = True := eq_true HEL.out.2
                have HX := Aside0.mk hx
                have HRD := Aside0.mk (show rd left (x : Int) = left.getD x 0 by unfold rd; rw [Int.toNat_natCast])
                clear hx
                cases hfw : waitsB ps (rd_T34 ps (rd left (x : Int))).f2 left with
                | true =>
                  have HW := Aside0.mk hfw
                  clear hfw
                  go_upto_region 15 with (fail)
                  refine start_ (n := 8) (S := fun w' => w'.cell? ⟨gp, 0, none⟩ = some (.slice (some ad) ps.length c1) ∧ w'.cell? (ad.add ((rd left (x : Int)).toNat * 4)) = some (.string (rd_T34 ps (rd left (x : Int))).f0) ∧ w'.cell? ⟨(ad.add ((rd left (x : Int)).toNat * 4)).block, (ad.add ((rd left (x : Int)).toNat * 4)).off + 1, none⟩ = some (.int .i64 (rd_T34 ps (rd left (x : Int))).f1) ∧ w'.cell? ⟨(ad.add ((rd left (x : Int)).toNat * 4)).block, (ad.add ((rd left (x : Int)).toNat * 4)).off + 2, none⟩ = some (.slice A2 (rd_T34 ps (rd left (x : Int))).f2.length c2) ∧ w'.cell? ⟨(ad.add ((rd left (x : Int)).toNat * 4)).block, (ad.add ((rd left (x : Int)).toNat * 4)).off + 3, none⟩ = some (.slice A3 (rd_T34 ps (rd left (x : Int))).f3.length c3)) (ds := []) #[false, false, false, false, false, false, false, false] (by kernel_rfl) rfl rfl ⟨hcz_0, q_0, q_1, q_2, q_3⟩ (fun hHeld => ?_); refine with_tabW pord.tab15 pord.bits15 (fun HT_ HW_ => ?_)
                  have y0_ := Aside0.mk (Kd.R_below HOL.out (below_drew1 (Below.refl _ _)))
                  have y1_ := Aside0.mk (Kd.R_below HOO.out (below_drew1 (Below.refl _ _)))
                  have y2_ := Aside0.mk (below_drew1 HB.out)
                  have y3_ := Aside0.mk (show gl < wr.drew.heap.size from HGL.out)
                  clear HOL HOO HB HGL hcz_0 q_0 q_1 q_2 q_3
                  generalize wr.drew = wg at y0_ y1_ y2_ y3_ hHeld ⊢
                  have HOL := y0_
                  have HOO := y1_
                  have HB := y2_
                  have HGL := y3_
                  clear y0_ y1_ y2_ y3_
                  refine take_ (i := 0) (N := some 47) (v := ?_) (a' := ?_) #[true, false, false, false, false, false, false, false] rfl rfl (take_ofW HT_.out HW_.out (by kernel_rfl)) (fun _ _ _ h => h) (Or.inl ⟨by rfl, ?_⟩) hHeld ?_ ?_
                  rotate_left
                  · rintro w' ⟨s0, s1, s2, s3, s4⟩
                    go_simp
                    with_reducible rfl
                  rotate_left
                  · simp only [Act.put, List.setIfInBounds_toArray, List.set_cons_zero, List.set_cons_succ, i64_w, i32_w]
                    rfl
                  refine pure_ (i := 1) (N := some 48) (v := ?_) (a' := ?_) #[true, true, false, false, false, false, false, false] rfl rfl (any_of HT_.out (by kernel_rfl)) (fun _ _ _ h => h) (Or.inl ⟨by rfl, ?_⟩) ?_ ?_
                  rotate_left
                  · intro w'
                    go_simp
                    with_reducible rfl
                  rotate_left
                  · simp only [Act.put, List.setIfInBounds_toArray, List.set_cons_zero, List.set_cons_succ, i64_w, i32_w]
                    rfl
                  refine pure_ (i := 2) (N := some 49) (v := ?_) (a' := ?_) #[true, true, true, false, false, false, false, false] rfl rfl (any_of HT_.out (by kernel_rfl)) (fun _ _ _ h => h) (Or.inl ⟨by rfl, ?_⟩) ?_ ?_
                  rotate_left
                  · intro w'
                    go_simp
                    with_reducible rfl
                  rotate_left
                  · simp only [Act.put, List.setIfInBounds_toArray, List.set_cons_zero, List.set_cons_succ, i64_w, i32_w]
                    rfl
                  refine take_ (i := 3) (N := some 50) (v := ?_) (a' := ?_) #[true, true, true, true, false, false, false, false] rfl rfl (take_ofW HT_.out HW_.out (by kernel_rfl)) (fun _ _ _ h => h) (Or.inl ⟨by rfl, ?_⟩) hHeld ?_ ?_
                  rotate_left
                  · rintro w' ⟨s0, s1, s2, s3, s4⟩
                    go_simp
                    with_reducible rfl
                  rotate_left
                  · simp only [Act.put, List.setIfInBounds_toArray, List.set_cons_zero, List.set_cons_succ, i64_w, i32_w]
                    rfl
                  refine pure_ (i := 4) (N := some 51) (v := ?_) (a' := ?_) #[true, true, true, true, true, false, false, false] rfl rfl (any_of HT_.out (by kernel_rfl)) (fun _ _ _ h => h) (Or.inl ⟨by rfl, ?_⟩) ?_ ?_
                  rotate_left
                  · intro w'
                    go_simp
                    with_reducible rfl
                  rotate_left
                  · simp only [Act.put, List.setIfInBounds_toArray, List.set_cons_zero, List.set_cons_succ, i64_w, i32_w]
                    rfl
                  refine take_ (i := 5) (N := some 52) (v := ?_) (a' := ?_) #[true, true, true, true, true, true, false, false] rfl rfl (take_ofW HT_.out HW_.out (by kernel_rfl)) (fun _ _ _ h => h) (Or.inl ⟨by rfl, ?_⟩) hHeld ?_ ?_
                  rotate_left
                  · rintro w' ⟨s0, s1, s2, s3, s4⟩
                    go_simp
                    with_reducible rfl
                  rotate_left
                  · simp only [Act.put, List.setIfInBounds_toArray, List.set_cons_zero, List.set_cons_succ, i64_w, i32_w]
                    rfl
                  refine one_ (i := 6) (N := some 53) #[true, true, true, true, true, true, true, false] rfl rfl (one_of HT_.out (by kernel_rfl)) (by decide) (fun K hK => ?_)
                  refine goes_ Tryd.func23 (by kernel_rfl) rfl #[.agg #[(.string (rd_T34 ps (rd left (x : Int))).f0), (.int .i64 (rd_T34 ps (rd left (x : Int))).f1), (.slice A2 (rd_T34 ps (rd left (x : Int))).f2.length c2), (.slice A3 (rd_T34 ps (rd left (x : Int))).f3.length c3)], .slice (some al) left.length cl, .slice (some ad) ps.length c1] (by rfl) rfl rfl (by (try simp only [List.map_toArray, List.map_cons, List.map_nil]); first | done | rfl) ?_
                  with_reducible refine (waits_calls ps (some ad) c1 (rd_T34 ps (rd left (x : Int))).f0 (rd_T34 ps (rd left (x : Int))).f1 A2 c2 (rd_T34 ps (rd left (x : Int))).f2 A3 (rd_T34 ps (rd left (x : Int))).f3.length c3 (some al) cl left HRG.out _ (Kd.C_below HCF.out HB.out) (Kd.C_below HI2.out HB.out) HL2.out HNI.out (Kd.R_reads' HOL.out).2.2 (by have := HLEN.out; omega)).mono ?_
                  rintro er w6 ⟨rfl, hb⟩
                  have y0_ := Aside0.mk (Kd.R_below HOL.out hb)
                  have y1_ := Aside0.mk (Kd.R_below HOO.out hb)
                  have y2_ := Aside0.mk (below_step HB.out hb)
                  have y3_ := Aside0.mk (Nat.lt_of_lt_of_le HGL.out hb.size)
                  clear HOL HOO HB HGL
                  have HOL := y0_
                  have HOO := y1_
                  have HB := y2_
                  have HGL := y3_
                  clear y0_ y1_ y2_ y3_
                  rw [HW.out]
                  refine ⟨_, rfl, ?_⟩
                  refine hK.out _ _ ⟨((blk_cell (blk_below HGF.out HB.out) 0).trans rfl), ((HB.out.cell (World.block_lt_of_cell? wf _ HQ0.out)).trans HQ0.out), ((HB.out.cell (World.block_lt_of_cell? wf _ HQ1.out)).trans HQ1.out), ((HB.out.cell (World.block_lt_of_cell? wf _ HQ2.out)).trans HQ2.out), ((HB.out.cell (World.block_lt_of_cell? wf _ HQ3.out)).trans HQ3.out)⟩ (fun hHeld => ?_)
                  clear hK K
                  refine norm_ (a' := ?_) ?_ ?_
                  rotate_left
                  · show Act.put _ (some 53) _ = _
                    simp only [Act.put, List.setIfInBounds_toArray, List.set_cons_zero, List.set_cons_succ, i64_w, i32_w]
                    rfl
                  refine pure_ (i := 7) (N := some 54) (v := ?_) (a' := ?_) #[true, true, true, true, true, true, true, true] rfl rfl (any_of HT_.out (by kernel_rfl)) (fun _ _ _ h => h) (Or.inl ⟨by rfl, ?_⟩) ?_ ?_
                  rotate_left
                  · intro w'
                    go_simp
                    with_reducible rfl
                  rotate_left
                  · simp only [Act.put, List.setIfInBounds_toArray, List.set_cons_zero, List.set_cons_succ, i64_w, i32_w]
                    rfl
                  refine done_ (done_of HT_.out (by kernel_rfl)) ?_
                  go_wp2_with (fail)
                  go_roundg (gk - 1)
                  case measure => have := HKQ.out; have := HX.out; omega
                  case rel => exact ⟨x + 1, (by first | rfl | rw [hw1]), rfl, rfl, HX.out, ⟨by have := HKQ.out; have := HX.out; omega⟩, ⟨fun j hj => by
                    by_cases hjx : j = x
                    · subst hjx
                      unfold free
                      rw [← HRD.out, HW.out]
                      rfl
                    · exact HFR.out j (by omega)⟩, HOL, HOO, HB, HGL⟩
                | false =>
                  have HW := Aside0.mk hfw
                  clear hfw
                  go_upto_region 15 with (fail)
                  refine start_ (n := 8) (S := fun w' => w'.cell? ⟨gp, 0, none⟩ = some (.slice (some ad) ps.length c1) ∧ w'.cell? (ad.add ((rd left (x : Int)).toNat * 4)) = some (.string (rd_T34 ps (rd left (x : Int))).f0) ∧ w'.cell? ⟨(ad.add ((rd left (x : Int)).toNat * 4)).block, (ad.add ((rd left (x : Int)).toNat * 4)).off + 1, none⟩ = some (.int .i64 (rd_T34 ps (rd left (x : Int))).f1) ∧ w'.cell? ⟨(ad.add ((rd left (x : Int)).toNat * 4)).block, (ad.add ((rd left (x : Int)).toNat * 4)).off + 2, none⟩ = some (.slice A2 (rd_T34 ps (rd left (x : Int))).f2.length c2) ∧ w'.cell? ⟨(ad.add ((rd left (x : Int)).toNat * 4)).block, (ad.add ((rd left (x : Int)).toNat * 4)).off + 3, none⟩ = some (.slice A3 (rd_T34 ps (rd left (x : Int))).f3.length c3)) (ds := []) #[false, false, false, false, false, false, false, false] (by kernel_rfl) rfl rfl ⟨hcz_0, q_0, q_1, q_2, q_3⟩ (fun hHeld => ?_); refine with_tabW pord.tab15 pord.bits15 (fun HT_ HW_ => ?_)
                  have y0_ := Aside0.mk (Kd.R_below HOL.out (below_drew1 (Below.refl _ _)))
                  have y1_ := Aside0.mk (Kd.R_below HOO.out (below_drew1 (Below.refl _ _)))
                  have y2_ := Aside0.mk (below_drew1 HB.out)
                  have y3_ := Aside0.mk (show gl < wr.drew.heap.size from HGL.out)
                  clear HOL HOO HB HGL hcz_0 q_0 q_1 q_2 q_3
                  generalize wr.drew = wg at y0_ y1_ y2_ y3_ hHeld ⊢
                  have HOL := y0_
                  have HOO := y1_
                  have HB := y2_
                  have HGL := y3_
                  clear y0_ y1_ y2_ y3_
                  refine take_ (i := 0) (N := some 47) (v := ?_) (a' := ?_) #[true, false, false, false, false, false, false, false] rfl rfl (take_ofW HT_.out HW_.out (by kernel_rfl)) (fun _ _ _ h => h) (Or.inl ⟨by rfl, ?_⟩) hHeld ?_ ?_
                  rotate_left
                  · rintro w' ⟨s0, s1, s2, s3, s4⟩
                    go_simp
                    with_reducible rfl
                  rotate_left
                  · simp only [Act.put, List.setIfInBounds_toArray, List.set_cons_zero, List.set_cons_succ, i64_w, i32_w]
                    rfl
                  refine pure_ (i := 1) (N := some 48) (v := ?_) (a' := ?_) #[true, true, false, false, false, false, false, false] rfl rfl (any_of HT_.out (by kernel_rfl)) (fun _ _ _ h => h) (Or.inl ⟨by rfl, ?_⟩) ?_ ?_
                  rotate_left
                  · intro w'
                    go_simp
                    with_reducible rfl
                  rotate_left
                  · simp only [Act.put, List.setIfInBounds_toArray, List.set_cons_zero, List.set_cons_succ, i64_w, i32_w]
                    rfl
                  refine pure_ (i := 2) (N := some 49) (v := ?_) (a' := ?_) #[true, true, true, false, false, false, false, false] rfl rfl (any_of HT_.out (by kernel_rfl)) (fun _ _ _ h => h) (Or.inl ⟨by rfl, ?_⟩) ?_ ?_
                  rotate_left
                  · intro w'
                    go_simp
                    with_reducible rfl
                  rotate_left
                  · simp only [Act.put, List.setIfInBounds_toArray, List.set_cons_zero, List.set_cons_succ, i64_w, i32_w]
                    rfl
                  refine take_ (i := 3) (N := some 50) (v := ?_) (a' := ?_) #[true, true, true, true, false, false, false, false] rfl rfl (take_ofW HT_.out HW_.out (by kernel_rfl)) (fun _ _ _ h => h) (Or.inl ⟨by rfl, ?_⟩) hHeld ?_ ?_
                  rotate_left
                  · rintro w' ⟨s0, s1, s2, s3, s4⟩
                    go_simp
                    with_reducible rfl
                  rotate_left
                  · simp only [Act.put, List.setIfInBounds_toArray, List.set_cons_zero, List.set_cons_succ, i64_w, i32_w]
                    rfl
                  refine pure_ (i := 4) (N := some 51) (v := ?_) (a' := ?_) #[true, true, true, true, true, false, false, false] rfl rfl (any_of HT_.out (by kernel_rfl)) (fun _ _ _ h => h) (Or.inl ⟨by rfl, ?_⟩) ?_ ?_
                  rotate_left
                  · intro w'
                    go_simp
                    with_reducible rfl
                  rotate_left
                  · simp only [Act.put, List.setIfInBounds_toArray, List.set_cons_zero, List.set_cons_succ, i64_w, i32_w]
                    rfl
                  refine take_ (i := 5) (N := some 52) (v := ?_) (a' := ?_) #[true, true, true, true, true, true, false, false] rfl rfl (take_ofW HT_.out HW_.out (by kernel_rfl)) (fun _ _ _ h => h) (Or.inl ⟨by rfl, ?_⟩) hHeld ?_ ?_
                  rotate_left
                  · rintro w' ⟨s0, s1, s2, s3, s4⟩
                    go_simp
                    with_reducible rfl
                  rotate_left
                  · simp only [Act.put, List.setIfInBounds_toArray, List.set_cons_zero, List.set_cons_succ, i64_w, i32_w]
                    rfl
                  refine one_ (i := 6) (N := some 53) #[true, true, true, true, true, true, true, false] rfl rfl (one_of HT_.out (by kernel_rfl)) (by decide) (fun K hK => ?_)
                  refine goes_ Tryd.func23 (by kernel_rfl) rfl #[.agg #[(.string (rd_T34 ps (rd left (x : Int))).f0), (.int .i64 (rd_T34 ps (rd left (x : Int))).f1), (.slice A2 (rd_T34 ps (rd left (x : Int))).f2.length c2), (.slice A3 (rd_T34 ps (rd left (x : Int))).f3.length c3)], .slice (some al) left.length cl, .slice (some ad) ps.length c1] (by rfl) rfl rfl (by (try simp only [List.map_toArray, List.map_cons, List.map_nil]); first | done | rfl) ?_
                  with_reducible refine (waits_calls ps (some ad) c1 (rd_T34 ps (rd left (x : Int))).f0 (rd_T34 ps (rd left (x : Int))).f1 A2 c2 (rd_T34 ps (rd left (x : Int))).f2 A3 (rd_T34 ps (rd left (x : Int))).f3.length c3 (some al) cl left HRG.out _ (Kd.C_below HCF.out HB.out) (Kd.C_below HI2.out HB.out) HL2.out HNI.out (Kd.R_reads' HOL.out).2.2 (by have := HLEN.out; omega)).mono ?_
                  rintro er w6 ⟨rfl, hb⟩
                  have y0_ := Aside0.mk (Kd.R_below HOL.out hb)
                  have y1_ := Aside0.mk (Kd.R_below HOO.out hb)
                  have y2_ := Aside0.mk (below_step HB.out hb)
                  have y3_ := Aside0.mk (Nat.lt_of_lt_of_le HGL.out hb.size)
                  clear HOL HOO HB HGL
                  have HOL := y0_
                  have HOO := y1_
                  have HB := y2_
                  have HGL := y3_
                  clear y0_ y1_ y2_ y3_
                  rw [HW.out]
                  refine ⟨_, rfl, ?_⟩
                  refine hK.out _ _ ⟨((blk_cell (blk_below HGF.out HB.out) 0).trans rfl), ((HB.out.cell (World.block_lt_of_cell? wf _ HQ0.out)).trans HQ0.out), ((HB.out.cell (World.block_lt_of_cell? wf _ HQ1.out)).trans HQ1.out), ((HB.out.cell (World.block_lt_of_cell? wf _ HQ2.out)).trans HQ2.out), ((HB.out.cell (World.block_lt_of_cell? wf _ HQ3.out)).trans HQ3.out)⟩ (fun hHeld => ?_)
                  clear hK K
                  refine norm_ (a' := ?_) ?_ ?_
                  rotate_left
                  · show Act.put _ (some 53) _ = _
                    simp only [Act.put, List.setIfInBounds_toArray, List.set_cons_zero, List.set_cons_succ, i64_w, i32_w]
                    rfl
                  refine pure_ (i := 7) (N := some 54) (v := ?_) (a' := ?_) #[true, true, true, true, true, true, true, true] rfl rfl (any_of HT_.out (by kernel_rfl)) (fun _ _ _ h => h) (Or.inl ⟨by rfl, ?_⟩) ?_ ?_
                  rotate_left
                  · intro w'
                    go_simp
                    with_reducible rfl
                  rotate_left
                  · simp only [Act.put, List.setIfInBounds_toArray, List.set_cons_zero, List.set_cons_succ, i64_w, i32_w]
                    rfl
                  refine done_ (done_of HT_.out (by kernel_rfl)) ?_
                  go_wp2_with (first | ((with_reducible refine gate_builtin (b := .append) (xs := #[.tmp 55, .tmp 57]) rfl ?_); at_builtin; refine Kd.R_append (Kd.int .i64) (w0 := wf) wf.heap.size rfl (.tmp 55) (.tmp 57) 27 3 (.int .i64 0) 8 rfl Tryd.underlying27 infoI_ rfl (by decide) (by decide) u10 out (rd left (x : Int)) [.int .i64 (rd left (x : Int))] (fun k => k ≠ gl) (fun _ => False) rfl rfl ?aP (fun _ hk => hk.elim) (fun k hk => by have := HGL.out; omega) HOO.out HB.out HB.out.size (by have := HLEN.out; omega) ?_; (case aP => exact rfl); intro v9 w9 ho hb_ hg_ hat_; have n0_ := Aside0.mk ho; have n1_ := Aside0.mk hb_; have n2_ := Aside0.mk (Kd.R_step HOL.out (fun k hk hlt => hg_.block k hlt (fun he => HOO.out.1 k he.symm hk))); have n3_ := Aside0.mk (Nat.lt_of_lt_of_le HGL.out hg_.size); clear HOO HB HOL HGL ho hb_ hg_ hat_; have HOO := n0_; have HB := n1_; have HOL := n2_; have HGL := n3_; clear n0_ n1_ n2_ n3_) | (go_at_call 24; (with_reducible refine (delete_R _ wf.heap.size (fun k => k = gl) (.slice (some al) left.length cl) left x HX.out HOL.out).mono ?_); rintro er w10 ⟨v10_, rfl, ho, hg, hob⟩; have n0_ := Aside0.mk ho; have n1_ := Aside0.mk (below_grown HB.out HOL.out hg); have n2_ := Aside0.mk (Kd.R_step HOO.out (fun k hk hlt => hg.block k hlt (fun he => hk (HOL.out.1 k he.symm)))); have n3_ := Aside0.mk (Nat.lt_of_lt_of_le HGL.out hg.size); clear HOO HB HOL HGL ho hg hob; have HOL := n0_; have HB := n1_; have HOO := n2_; have HGL := n3_; clear n0_ n1_ n2_ n3_))
                  go_roundg ((left.eraseIdx x).length)
                  case measure => have := HKO.out; have := HX.out; have h2 : (left.eraseIdx x).length = left.length - 1 := (by rw [List.length_eraseIdx, if_pos HX.out]); omega
                  case rel => exact ⟨left.eraseIdx x, out ++ [rd left (x : Int)], ⟨rfl⟩, HOL, HOO, HB, HGL, ⟨fun y hy => HRG.out y (List.mem_of_mem_eraseIdx hy)⟩, ⟨by
                    have h2 : (left.eraseIdx x).length = left.length - 1 := by rw [List.length_eraseIdx, if_pos HX.out]
                    have := HLEN.out
                    have := HX.out
                    rw [List.length_append]
                    simp only [List.length_cons, List.length_nil]
                    omega⟩, ⟨by
                    have h3 := HPL.out
                    rw [planF_free HX.out HFR.out (by unfold free; rw [← HRD.out, HW.out]; rfl), ← HRD.out] at h3
                    exact h3⟩⟩
              · have c0 : decide ((x : Int) < (left.length : Int)) = false := decide_eq_false (by omega)
                have hxe : x = left.length := by omega
                subst hxe
                have HE0 := Aside0.mk (show 0 ≤ rd left 0 ∧ rd left 0 < (ps.length : Int) by rw [rd_at left 0 HT0.out]; exact HRG.out _ (List.getElem_mem _))
                obtain ⟨al', e1_, hx_0⟩ := Kd.at_int (Kd.R_reads' HOL.out).2.2 0 (by omega) (by have := HT0.out; omega)
                cases e1_
                obtain ⟨ad', A2, c2, A3, c3, e2_, hq0, hq1, hq2, hq3, hl2, hi2, hl3, hi3⟩ := at_T34 HCF.out (rd left 0) HE0.out.1 HE0.out.2
                cases e2_
                have HQ0 := Aside0.mk hq0
                have q_0 := (HB.out.cell (World.block_lt_of_cell? wf _ HQ0.out)).trans HQ0.out
                have hcz_0 : wr.cell? ⟨gp, 0, none⟩ = some (.slice (some ad) ps.length c1) := (blk_cell (blk_below HGF.out HB.out) 0).trans rfl
                have h0_ : al.add 0 = al := by simp [Addr.add]
                rw [show (0 : Int).toNat = 0 from rfl, h0_] at hx_0
                clear h0_
                clear hq0 hq1 hq2 hq3 hl2 hi2 hl3 hi3
                have hxx_ : (0 < left.length) = True := eq_true HT0.out
                have hxy_ : ((0 : Int) < (left.length : Int)) = True := eq_true (by have := HT0.out; omega)
                have hxz_ : (0 ≤ rd left 0) = True := eq_true HE0.out.1
                have hxw_ : (rd left 0 < (ps.length : Int)) = True := eq_true HE0.out.2
                go_upto_region 19 with (fail)
                refine start_ (n := 10) (S := fun w' => w'.cell? ⟨gp, 0, none⟩ = some (.slice (some ad) ps.length c1) ∧ w'.cell? al = some (.int .i64 (rd left 0)) ∧ w'.cell? (ad.add ((rd left 0).toNat * 4)) = some (.string (rd_T34 ps (rd left 0)).f0)) (ds := []) #[false, false, false, false, false, false, false, false, false, false] (by kernel_rfl) rfl rfl ⟨hcz_0, hx_0, q_0⟩ (fun hHeld => ?_); refine with_tabW pord.tab19 pord.bits19 (fun HT_ HW_ => ?_)
                refine take_ (i := 0) (N := some 65) (v := ?_) (a' := ?_) #[true, false, false, false, false, false, false, false, false, false] rfl rfl (take_ofW HT_.out HW_.out (by kernel_rfl)) (fun _ _ _ h => h) (Or.inl ⟨by rfl, ?_⟩) hHeld ?_ ?_
                rotate_left
                · rintro w' ⟨s0, s1, s2⟩
                  go_simp
                  with_reducible rfl
                rotate_left
                · simp only [Act.put, List.setIfInBounds_toArray, List.set_cons_zero, List.set_cons_succ, i64_w, i32_w]
                  rfl
                refine pure_ (i := 1) (N := some 66) (v := ?_) (a' := ?_) #[true, true, false, false, false, false, false, false, false, false] rfl rfl (any_of HT_.out (by kernel_rfl)) (fun _ _ _ h => h) (Or.inl ⟨by rfl, ?_⟩) ?_ ?_
                rotate_left
                · intro w'
                  go_simp
                  with_reducible rfl
                rotate_left
                · simp only [Act.put, List.setIfInBounds_toArray, List.set_cons_zero, List.set_cons_succ, i64_w, i32_w]
                  rfl
                refine pure_ (i := 2) (N := some 67) (v := ?_) (a' := ?_) #[true, true, true, false, false, false, false, false, false, false] rfl rfl (any_of HT_.out (by kernel_rfl)) (fun _ _ _ h => h) (Or.inl ⟨by rfl, ?_⟩) ?_ ?_
                rotate_left
                · intro w'
                  go_simp
                  with_reducible rfl
                rotate_left
                · simp only [Act.put, List.setIfInBounds_toArray, List.set_cons_zero, List.set_cons_succ, i64_w, i32_w]
                  rfl
                refine take_ (i := 3) (N := some 68) (v := ?_) (a' := ?_) #[true, true, true, true, false, false, false, false, false, false] rfl rfl (take_ofW HT_.out HW_.out (by kernel_rfl)) (fun _ _ _ h => h) (Or.inl ⟨by rfl, ?_⟩) hHeld ?_ ?_
                rotate_left
                · rintro w' ⟨s0, s1, s2⟩
                  go_simp
                  with_reducible rfl
                rotate_left
                · simp only [Act.put, List.setIfInBounds_toArray, List.set_cons_zero, List.set_cons_succ, i64_w, i32_w]
                  rfl
                refine pure_ (i := 4) (N := some 69) (v := ?_) (a' := ?_) #[true, true, true, true, true, false, false, false, false, false] rfl rfl (any_of HT_.out (by kernel_rfl)) (fun _ _ _ h => h) (Or.inl ⟨by rfl, ?_⟩) ?_ ?_
                rotate_left
                · intro w'
                  go_simp
                  with_reducible rfl
                rotate_left
                · simp only [Act.put, List.setIfInBounds_toArray, List.set_cons_zero, List.set_cons_succ, i64_w, i32_w]
                  rfl
                refine pure_ (i := 5) (N := some 70) (v := ?_) (a' := ?_) #[true, true, true, true, true, true, false, false, false, false] rfl rfl (any_of HT_.out (by kernel_rfl)) (fun _ _ _ h => h) (Or.inl ⟨by rfl, ?_⟩) ?_ ?_
                rotate_left
                · intro w'
                  go_simp
                  with_reducible rfl
                rotate_left
                · simp only [Act.put, List.setIfInBounds_toArray, List.set_cons_zero, List.set_cons_succ, i64_w, i32_w]
                  rfl
                refine take_ (i := 6) (N := some 71) (v := ?_) (a' := ?_) #[true, true, true, true, true, true, true, false, false, false] rfl rfl (take_ofW HT_.out HW_.out (by kernel_rfl)) (fun _ _ _ h => h) (Or.inl ⟨by rfl, ?_⟩) hHeld ?_ ?_
                rotate_left
                · rintro w' ⟨s0, s1, s2⟩
                  go_simp
                  with_reducible rfl
                rotate_left
                · simp only [Act.put, List.setIfInBounds_toArray, List.set_cons_zero, List.set_cons_succ, i64_w, i32_w]
                  rfl
                refine pure_ (i := 7) (N := some 4) (v := ?_) (a' := ?_) #[true, true, true, true, true, true, true, true, false, false] rfl rfl (any_of HT_.out (by kernel_rfl)) (fun _ _ _ h => h) (Or.inl ⟨by rfl, ?_⟩) ?_ ?_
                rotate_left
                · intro w'
                  go_simp
                  with_reducible rfl
                rotate_left
                · simp only [Act.put, List.setIfInBounds_toArray, List.set_cons_zero, List.set_cons_succ, i64_w, i32_w]
                  rfl
                refine pure_ (i := 8) (N := some 5) (v := ?_) (a' := ?_) #[true, true, true, true, true, true, true, true, true, false] rfl rfl (any_of HT_.out (by kernel_rfl)) (fun _ _ _ h => h) (Or.inl ⟨by rfl, ?_⟩) ?_ ?_
                rotate_left
                · intro w'
                  go_simp
                  with_reducible rfl
                rotate_left
                · simp only [Act.put, List.setIfInBounds_toArray, List.set_cons_zero, List.set_cons_succ, i64_w, i32_w]
                  rfl
                refine pure_ (i := 9) (N := some 6) (v := ?_) (a' := ?_) #[true, true, true, true, true, true, true, true, true, true] rfl rfl (any_of HT_.out (by kernel_rfl)) (fun _ _ _ h => h) (Or.inl ⟨by rfl, ?_⟩) ?_ ?_
                rotate_left
                · intro w'
                  go_simp
                  with_reducible rfl
                rotate_left
                · simp only [Act.put, List.setIfInBounds_toArray, List.set_cons_zero, List.set_cons_succ, i64_w, i32_w]
                  rfl
                refine done_ (done_of HT_.out (by kernel_rfl)) ?_
                go_wp2_with (fail)
                try simp only [Exit.inBlock, Exit.then, Exit.noGoto_ret]
                go_ret3
                have hpl := HPL.out
                rw [planF_stuck HT0.out HFR.out] at hpl
                refine ⟨.slice none 0 0, ?_, ?_, below_step HBW.out (by repeat (first | (with_reducible first | exact HB.out | apply below_alloc | apply pw_below_drewN | apply below_drew1) | exact HB.out))⟩
                · rw [HLE.out, ← hpl]
                  rfl
                · rw [HLE.out, ← hpl]
                  exact Kd.R_nil _ _ _ _ _
          · have c0 : decide ((0 : Int) < (left.length : Int)) = false := decide_eq_false (by omega)
            obtain rfl : left = [] := List.eq_nil_of_length_eq_zero (by omega)
            go_wp2_with (fail)
            try simp only [Exit.inBlock, Exit.then, Exit.noGoto_ret]
            go_ret3
            have hpl : (out, (0 : Int), (⟨#[]⟩ : ByteArray)) = planR ps (L.map fun i : Fin ps.length => (i.val : Int)) := HPL.out
            refine ⟨u10, ?_, ?_, below_step HBW.out (by repeat (first | (with_reducible first | exact HB.out | apply below_alloc | apply pw_below_drewN | apply below_drew1) | exact HB.out))⟩
            · rw [HLE.out, ← hpl]
              rfl
            · rw [HLE.out, ← hpl]
              exact Kd.R_lower (Kd.R_mono HOO.out (fun _ _ => trivial)) HBW.out.size
end Hd
def plan_Order.f (k : Nat) (l0 : List ByteArray) (l1 : List S34) : Option (List Int × Int × ByteArray) := (plan_first.f k l0 l1).bind fun b => if b.1 = 0 then (if (decide (l1.length ≤ 12) && l1.all fun x => decide (x.f2.length ≤ 1000000)) = true then some (Hd.planR l1 (Hd.sortL l1)) else none) else some ([], b.1, b.2)
theorem plan_Order.mono : ∀ a0 a1 k, LeO (plan_Order.f k a0 a1) (plan_Order.f (k + 1) a0 a1) := by
  intro a0 a1 k
  unfold plan_Order.f
  exact LeO.bind (plan_first.mono _ _ _) (fun _ => LeO.refl _)
theorem plan_Order.calls (k : Nat) (A0 : Option Addr) (c0 : Nat) (l0 : List ByteArray) (A1 : Option Addr) (c1 : Nat) (l1 : List S34) (r1 : List Int) (r2 : Int) (r3 : ByteArray) (w : World) (hr0 : Kd.C Kd.string w A0 l0.length l0) (hc0 : l0.length ≤ c0) (hr1 : Kd.C k34 w A1 l1.length l1) (hc1 : l1.length ≤ c1) (h : plan_Order.f k l0 l1 = some (r1, r2, r3)) :
    Calls Tryd.prog 10 #[.slice A0 l0.length c0, .slice A1 l1.length c1] w fun e w' => ∃ v0_ : Value, e = .returned (.tuple #[v0_, .int .i64 r2, .string r3]) ∧ Kd.R (Kd.int .i64) 3 w' w.heap.size (fun _ => True) v0_ r1 ∧ Below w.heap.size w w' := by
  unfold plan_Order.f at h
  obtain ⟨⟨e, n⟩, hf, h⟩ := Option.bind_eq_some_iff.mp h
  by_cases he : e = 0
  · subst he
    rw [if_pos rfl] at h
    by_cases hs : (decide (l1.length ≤ 12) && l1.all fun x => decide (x.f2.length ≤ 1000000)) = true
    · rw [if_pos hs] at h
      simp only [Bool.and_eq_true, decide_eq_true_eq, List.all_eq_true] at hs
      have h := Option.some.inj h
      have e2 : (Hd.planR l1 (Hd.sortL l1)).2.1 = r2 := by rw [h]
      have e3 : (Hd.planR l1 (Hd.sortL l1)).2.2 = r3 := by rw [h]
      have e1 : (Hd.planR l1 (Hd.sortL l1)).1 = r1 := by rw [h]
      refine (Hd.order_good k A0 c0 l0 A1 c1 l1 n w hr0 hc0 hr1 hc1 hf hs.1 hs.2).mono ?_
      rintro r w' ⟨vv, rfl, ho, hb⟩
      rw [e1] at ho
      rw [e2, e3]
      exact ⟨vv, rfl, ho, hb⟩
    · rw [if_neg hs] at h
      cases h
  · rw [if_neg he] at h
    have h := Option.some.inj h
    simp only [Prod.mk.injEq] at h
    obtain ⟨rfl, rfl, rfl⟩ := h
    refine (Hd.order_err k A0 c0 l0 A1 c1 l1 n w hr0 hc0 hr1 hc1 e he hf).mono ?_
    rintro r w' ⟨rfl, hb⟩
    exact ⟨_, rfl, Kd.R_nil _ _ _ _ _, hb⟩
-- slices_Contains_string_string


end Go.Proofs.YtgfdcakeplamnaaDoor.PAll
