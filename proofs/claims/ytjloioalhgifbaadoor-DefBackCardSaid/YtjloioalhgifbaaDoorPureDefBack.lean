/- DefBack's plain statement: what is written of a definition is the document's, and is read as it was. -/
import Derived.Test.YtjloioalhgifbaaDoorPAllx5
import Derived.Test.YtjloioalhgifbaaDoorPAllx13
import Derived.Test.YtjloioalhgifbaaDoorPAllx8
import Derived.Test.YtjloioalhgifbaaDoorPd
import Derived.Test.YtjloioalhgifbaaDoorPe
import Derived.Test.YtjloioalhgifbaaDoorQx
namespace Go.Proofs.YtjloioalhgifbaaDoor.Pure
open Go.RowKit Go.Proofs.YtjloioalhgifbaaDoor.PAll Go.Proofs.YtjloioalhgifbaaDoorW.PrintWords Go.Proofs.YtjloioalhgifbaaDoorW.PrintLast Go.Proofs.YtjloioalhgifbaaDoor.Hd
theorem strOf_append (a b : List Int) : strOfNums (a ++ b) = strOfNums a ++ strOfNums b := by
  apply ByteArray.ext
  simp [strOfNums]
theorem strOf_bytesN (s : ByteArray) : strOfNums (bytesN s) = s := by
  apply ByteArray.ext
  apply Array.ext'
  show (bytesN s).map (fun n => UInt8.ofNat n.toNat) = s.data.toList
  rw [bytesN, List.map_map]
  conv => rhs; rw [← List.map_id s.data.toList]
  apply List.map_congr_left
  intro b _
  show UInt8.ofNat ((b.toNat : Int)).toNat = b
  rw [Int.toNat_natCast]
  exact UInt8.ofNat_toNat
theorem oct_step (k : Nat) (x i : Int) (y : ByteArray) (h0 : 0 ≤ x) (h1 : x < 4294967296) (hi : 0 ≤ i) (hi4 : i < 4) (hy : y.size ≤ 100) :
    monticuleref01_octets.l0 (k + 1) x 4 y i = monticuleref01_octets.l0 k (x / 256) 4 (strOfNums [x % 256] ++ y) (i + 1) := by
  have e1 : Int.tmod x 256 % 256 = x % 256 := by rw [Int.tmod_eq_emod_of_nonneg h0]; omega
  have e2 : IntKind.u64.wrap (Int.tdiv x 256) = x / 256 := by rw [Int.tdiv_eq_ediv_of_nonneg h0]; exact u64_mod _ (by omega)
  have e3 : wrap64 (i + 1) = i + 1 := IntWalk.wrap64_in _ (by omega)
  rw [monticuleref01_octets.l0, if_pos hi4, Option.bind_some, e1, e2, e3, if_pos (by rw [strOf_size]; simp only [List.length_cons, List.length_nil]; omega)]
theorem octets_val (n : Int) (h0 : 0 ≤ n) (h1 : n < 4294967296) : Ev (fun k => monticuleref01_octets.f k n 4) (strOfNums (be4 n)) := by
  refine ev_mk 5 (fun k hk => ?_)
  obtain ⟨j, rfl⟩ : ∃ j, k = j + 1 + 1 + 1 + 1 + 1 := ⟨k - 5, by omega⟩
  have hs : ∀ (a : Int) (y : ByteArray), (strOfNums [a] ++ y).size = y.size + 1 := fun a y => by rw [ByteArray.size_append, strOf_size]; simp only [List.length_cons, List.length_nil]; omega
  have hn : (⟨#[]⟩ : ByteArray).size = 0 := rfl
  unfold monticuleref01_octets.f
  rw [oct_step _ _ _ _ h0 h1 (by decide) (by decide) (by omega), oct_step _ _ _ _ (by omega) (by omega) (by decide) (by decide) (by rw [hs]; omega), oct_step _ _ _ _ (by omega) (by omega) (by decide) (by decide) (by rw [hs, hs]; omega), oct_step _ _ _ _ (by omega) (by omega) (by decide) (by decide) (by rw [hs, hs, hs]; omega), monticuleref01_octets.l0, if_neg (by decide)]
  rw [show (⟨#[]⟩ : ByteArray) = strOfNums [] from rfl, ← strOf_append, ← strOf_append, ← strOf_append, ← strOf_append]
  congr 2
  show [n / 256 / 256 / 256 % 256] ++ ([n / 256 / 256 % 256] ++ ([n / 256 % 256] ++ ([n % 256] ++ []))) = be4 n
  unfold be4
  simp only [List.cons_append, List.nil_append]
  rw [show n / 256 / 256 / 256 = n / 16777216 by omega, show n / 256 / 256 = n / 65536 by omega]
theorem Num_val (n : Int) (h0 : 0 ≤ n) (h1 : n ≤ 2147483647) : Ev (fun k => monticuleref01_Num.f k n) (strOfNums (be4 n), true) := by
  obtain ⟨K, h⟩ := ev_out (octets_val n h0 (by omega))
  refine ev_mk K (fun k hk => ?_)
  unfold monticuleref01_Num.f
  rw [if_neg (by omega), if_neg (by omega), show IntKind.u64.wrap (n) = n from u64_mod n (by omega), h k hk]
  rfl
theorem Text_val (s : ByteArray) (hs : s.size ≤ 100000) : Ev (fun k => monticuleref01_Text.f k s) (strOfNums (textO s)) := by
  obtain ⟨K, h⟩ := ev_out (Num_val (s.size : Int) (by omega) (by omega))
  refine ev_mk K (fun k hk => ?_)
  unfold monticuleref01_Text.f
  rw [h k hk, Option.bind_some]
  simp only []
  rw [if_pos (by rw [strOf_size]; show 4 + s.size ≤ _; omega), textO, strOf_append, strOf_bytesN]
theorem strOf_text_size (s : ByteArray) : (strOfNums (textO s)).size = s.size + 4 := by rw [strOf_size, textO_len]
theorem Texts_l0 (l : List ByteArray) (hs : ∀ x ∈ l, x.size ≤ 100000) (hll : l.length ≤ 1000000) : ∀ (d i : Nat), l.length - i = d → i ≤ l.length → ∀ acc : ByteArray, acc.size + d * 100004 ≤ 1000000000000000 →
    Ev (fun k => monticuleref01_Texts.l0 k l acc (i : Int)) (acc ++ strOfNums ((l.drop i).flatMap textO))
  | 0, i, hd, hi, acc, ha => by
    refine Ev.step (f := fun _ => some acc) (fun k => ?_) ?_
    · rw [monticuleref01_Texts.l0, if_neg (by omega)]
    · rw [List.drop_eq_nil_of_le (by omega)]
      have e : acc ++ strOfNums (([] : List ByteArray).flatMap textO) = acc := by
        apply ByteArray.ext
        simp [strOfNums]
      rw [e]
      exact Ev.now _
  | d + 1, i, hd, hi, acc, ha => by
    have hlt : i < l.length := by omega
    have hw : wrap64 ((i : Int) + 1) = ((i + 1 : Nat) : Int) := wrap_succ (by omega) (show (i : Int) < (l.length : Int) by omega) (by omega)
    have hsz := hs _ (List.getElem_mem hlt)
    have ih := Texts_l0 l hs hll d (i + 1) (by omega) (by omega) (acc ++ strOfNums (textO l[i])) (by rw [ByteArray.size_append, strOf_text_size]; omega)
    rw [List.drop_eq_getElem_cons hlt, List.flatMap_cons, strOf_append, ← ByteArray.append_assoc]
    refine Ev.step (f := fun k => (monticuleref01_Text.f k (l[i])).bind fun t350 => (if acc.size + t350.size ≤ 9223372036854775807 then (monticuleref01_Texts.l0 k l (acc ++ t350) (((i + 1 : Nat) : Int))) else (none))) (fun k => ?_) ?_
    · rw [monticuleref01_Texts.l0, if_pos (by omega), if_pos (by omega), rdOf_get l i hlt, hw]
    · refine Ev.bind (f := fun k t350 => (if acc.size + t350.size ≤ 9223372036854775807 then (monticuleref01_Texts.l0 k l (acc ++ t350) (((i + 1 : Nat) : Int))) else (none))) (Text_val _ hsz) (Ev.congr (fun k => ?_) ih)
      rw [if_pos (by rw [strOf_text_size]; omega)]
theorem Texts_val (l : List ByteArray) (hs : ∀ x ∈ l, x.size ≤ 100000) (hll : l.length ≤ 1000000) : Ev (fun k => monticuleref01_Texts.f k l) (strOfNums (be4 (l.length : Int) ++ l.flatMap textO)) := by
  have h := Texts_l0 l hs hll l.length 0 (by omega) (Nat.zero_le _) (strOfNums (be4 (l.length : Int))) (by rw [strOf_size]; show 4 + _ ≤ _; omega)
  rw [List.drop_zero, ← strOf_append] at h
  refine Ev.congr (fun k => ?_) (Ev.bind (f := fun k bt => monticuleref01_Texts.l0 k l (Prod.fst bt) 0) (Num_val (l.length : Int) (by omega) (by omega)) h)
  rfl
theorem Octets_val (kd : Int) (c s : ByteArray) (v : List ByteArray) (l t : ByteArray) (hk : kd = 1 ∨ kd = 2) (hc : c.size ≤ 100000) (hs : s.size ≤ 100000) (hv : v.length ≤ 1000000) (hl : l.size ≤ 100000) (ht : t.size ≤ 100000) (hx : ∀ x ∈ v, x.size ≤ 100000) :
    Ev (fun k => monticuleref07_Octets.f k kd c s v l t) (strOfNums (defO kd c s v l t)) := by
  obtain ⟨K1, h1⟩ := ev_out (Num_val kd (by omega) (by omega))
  obtain ⟨K2, h2⟩ := ev_out (Text_val c hc)
  obtain ⟨K3, h3⟩ := ev_out (Text_val s hs)
  obtain ⟨K4, h4⟩ := ev_out (Texts_val v hx hv)
  obtain ⟨K5, h5⟩ := ev_out (Text_val l hl)
  obtain ⟨K6, h6⟩ := ev_out (Text_val t ht)
  have b4 : ∀ n, (be4 n).length = 4 := fun _ => rfl
  have hfl := listO_len v hx
  refine ev_mk (K1 + K2 + K3 + K4 + K5 + K6) (fun k hk' => ?_)
  unfold monticuleref07_Octets.f
  rw [h1 k (by omega), Option.bind_some]
  simp only []
  rcases hk with hk | hk
  · rw [if_pos hk, h2 k (by omega), Option.bind_some, if_pos (by rw [strOf_text_size, strOf_size, b4]; omega), h3 k (by omega), Option.bind_some, if_pos (by rw [ByteArray.size_append, strOf_text_size, strOf_text_size, strOf_size, b4]; omega), h4 k (by omega), Option.bind_some,
      if_pos (by rw [ByteArray.size_append, ByteArray.size_append, strOf_text_size, strOf_text_size, strOf_size, strOf_size, b4, List.length_append, b4]; omega), ← strOf_append, ← strOf_append, ← strOf_append, defO, if_pos hk]
    simp only [List.append_assoc]
  · rw [if_neg (by omega), h2 k (by omega), Option.bind_some, if_pos (by rw [strOf_text_size, strOf_size, b4]; omega), h5 k (by omega), Option.bind_some, if_pos (by rw [ByteArray.size_append, strOf_text_size, strOf_text_size, strOf_size, b4]; omega), h6 k (by omega), Option.bind_some,
      if_pos (by rw [ByteArray.size_append, ByteArray.size_append, strOf_text_size, strOf_text_size, strOf_text_size, strOf_size, b4]; omega), ← strOf_append, ← strOf_append, ← strOf_append, defO, if_neg (by omega)]
    simp only [List.append_assoc]
/-- What is written, read. -/
theorem numR_back (n : Int) (r : List Int) (h0 : 0 ≤ n) (h1 : n ≤ 2147483647) : numR (be4 n ++ r) 0 = (n, r, 0) := by
  have hv : val ((be4 n ++ r).take 4) = n := by
    show ((((0 * 256 + n / 16777216 % 256) * 256 + n / 65536 % 256) * 256 + n / 256 % 256) * 256 + n % 256) = n
    omega
  unfold numR
  rw [if_neg (by decide), if_neg (by rw [List.length_append]; show ¬ (4 + r.length < 4); omega), if_neg (by rw [hv]; omega), hv]
  rfl
theorem textR_back (s : ByteArray) (r : List Int) (hs : s.size ≤ 2147483647) : textR (textO s ++ r) 0 = (s, r, 0) := by
  have hq : numR (textO s ++ r) 0 = ((s.size : Int), bytesN s ++ r, 0) := by
    rw [textO, List.append_assoc]
    exact numR_back _ _ (by omega) (by omega)
  have hb := bytesN_len s
  rw [textR_good hq rfl (by rw [List.length_append]; omega)]
  have e : ((s.size : Int)).toNat = (bytesN s).length := by omega
  rw [e, List.take_left, List.drop_left, strOf_bytesN]
theorem textsL_back : ∀ (v : List ByteArray) (r : List Int), (∀ x ∈ v, x.size ≤ 2147483647) → textsL v.length (v.flatMap textO ++ r) = (v, r, 0)
  | [], r, _ => rfl
  | x :: v, r, h => by
    have e := textR_back x (v.flatMap textO ++ r) (h x List.mem_cons_self)
    rw [List.flatMap_cons, List.append_assoc, List.length_cons, textsL_succ, e, if_neg (fun h => h rfl)]
    have ih := textsL_back v r (fun y hy => h y (List.mem_cons_of_mem _ hy))
    simp only []
    rw [ih]
theorem listO_ge : ∀ (v : List ByteArray), v.length ≤ (v.flatMap textO).length
  | [] => Nat.le_refl _
  | x :: v => by
    rw [List.flatMap_cons, List.length_append, textO_len, List.length_cons]
    have := listO_ge v
    omega
theorem textsR_back (v : List ByteArray) (r : List Int) (hv : v.length ≤ 1000000) (hx : ∀ x ∈ v, x.size ≤ 2147483647) : textsR (be4 (v.length : Int) ++ (v.flatMap textO ++ r)) 0 = (v, r, 0) := by
  have hq := numR_back (v.length : Int) (v.flatMap textO ++ r) (by omega) (by omega)
  have hb := textsL_back v r hx
  have hg := listO_ge v
  have e : ((v.length : Int)).toNat = v.length := by omega
  rw [textsR_good hq rfl (by rw [List.length_append]; omega) (by rw [e, hb]), e, hb]
theorem rightD_one {c s : ByteArray} {v : List ByteArray} {l t : ByteArray} (h : rightD 1 c s v l t = true) : l = noB ∧ t = noB := by
  unfold rightD at h
  rw [if_pos rfl] at h
  simp only [Bool.and_eq_true, decide_eq_true_eq] at h
  exact ⟨h.1.2, h.2⟩
theorem rightD_two {c s : ByteArray} {v : List ByteArray} {l t : ByteArray} (h : rightD 2 c s v l t = true) : s = noB ∧ v = [] := by
  unfold rightD at h
  rw [if_neg (by decide), if_pos rfl] at h
  simp only [Bool.and_eq_true, decide_eq_true_eq] at h
  exact ⟨h.1.2, List.eq_nil_of_length_eq_zero h.2⟩
theorem rightD_kd {kd : Int} {c s : ByteArray} {v : List ByteArray} {l t : ByteArray} (h : rightD kd c s v l t = true) : kd = 1 ∨ kd = 2 := by
  unfold rightD at h
  by_cases h1 : kd = 1
  · exact Or.inl h1
  · rw [if_neg h1] at h
    by_cases h2 : kd = 2
    · exact Or.inr h2
    · rw [if_neg h2] at h; cases h
theorem readR_back (kd : Int) (c s : ByteArray) (v : List ByteArray) (l t : ByteArray) (hr : rightD kd c s v l t = true) (hc : c.size ≤ 100000) (hs : s.size ≤ 100000) (hv : v.length ≤ 1000000) (hl : l.size ≤ 100000) (ht : t.size ≤ 100000) (hx : ∀ x ∈ v, x.size ≤ 100000) :
    readR (defO kd c s v l t) 0 = (⟨kd, c, s, v, l, t⟩, 0, [], 0) := by
  rcases rightD_kd hr with hk | hk
  · subst hk
    obtain ⟨rfl, rfl⟩ := rightD_one hr
    have h3 := textsR_back v [] hv (fun x h => Nat.le_trans (hx x h) (by decide))
    rw [List.append_nil] at h3
    have e : defO 1 c s v noB noB = be4 1 ++ (textO c ++ (textO s ++ (be4 (v.length : Int) ++ v.flatMap textO))) := rfl
    rw [e, readR_class (numR_back 1 _ (by decide) (by decide)) rfl (textR_back c _ (by omega)) (textR_back s _ (by omega)) h3]
    exact finR_good rfl hr
  · subst hk
    obtain ⟨rfl, rfl⟩ := rightD_two hr
    have h3 := textR_back t [] (by omega)
    rw [List.append_nil] at h3
    have e : defO 2 c noB [] l t = be4 2 ++ (textO c ++ (textO l ++ textO t)) := rfl
    rw [e, readR_method (numR_back 2 _ (by decide) (by decide)) rfl (textR_back c _ (by omega)) (textR_back l _ (by omega)) h3]
    exact finR_good rfl hr
theorem be4_ok (n : Int) : BytesOk (be4 n) := by
  intro x hx
  simp only [be4, List.mem_cons, List.not_mem_nil, or_false] at hx
  omega
theorem BytesOk.app {a b : List Int} (h : BytesOk a) (k : BytesOk b) : BytesOk (a ++ b) := fun x hx => (List.mem_append.1 hx).elim (h x) (k x)
theorem textO_ok (s : ByteArray) : BytesOk (textO s) := by
  refine BytesOk.app (be4_ok _) (fun x hx => ?_)
  obtain ⟨b, _, rfl⟩ := List.mem_map.1 hx
  have := b.toNat_lt
  exact ⟨by omega, by omega⟩
theorem listO_ok (v : List ByteArray) : BytesOk (v.flatMap textO) := fun x hx => by
  obtain ⟨s, _, h⟩ := List.mem_flatMap.1 hx
  exact textO_ok s x h
theorem defO_ok (kd : Int) (c s : ByteArray) (v : List ByteArray) (l t : ByteArray) : BytesOk (defO kd c s v l t) := by
  unfold defO
  refine BytesOk.app (be4_ok _) (BytesOk.app (textO_ok _) ?_)
  split
  · exact BytesOk.app (textO_ok _) (BytesOk.app (be4_ok _) (listO_ok _))
  · exact BytesOk.app (textO_ok _) (textO_ok _)
theorem listO_small : ∀ (l : List ByteArray), (∀ x ∈ l, x.size ≤ 100) → (l.flatMap textO).length ≤ l.length * 104
  | [], _ => Nat.zero_le _
  | x :: l, h => by
    rw [List.flatMap_cons, List.length_append, textO_len, List.length_cons]
    have := h x List.mem_cons_self
    have := listO_small l (fun y hy => h y (List.mem_cons_of_mem _ hy))
    omega
theorem defO_len (kd : Int) (c s : ByteArray) (v : List ByteArray) (l t : ByteArray) (hc : c.size ≤ 100) (hs : s.size ≤ 100) (hv : v.length ≤ 30) (hl : l.size ≤ 600) (ht : t.size ≤ 5000) (hx : ∀ x ∈ v, x.size ≤ 100) : (defO kd c s v l t).length ≤ 80000 := by
  have h := listO_small v hx
  have b4 : ∀ n, (be4 n).length = 4 := fun _ => rfl
  unfold defO
  rw [List.length_append, List.length_append, b4, textO_len]
  split
  · rw [List.length_append, List.length_append, b4, textO_len]; omega
  · rw [List.length_append, textO_len, textO_len]; omega
theorem DefBack (kd : Int) (c s : ByteArray) (v : List ByteArray) (l t : ByteArray) : ∃ (k : Nat) (sm rb : Bool) (n7 od : ByteArray) (ob o1 : List Int), monticulelaw07_awake.f k = some true ∧ monticuleref07_Small.f k kd c s v l t = some sm ∧
    (sm = true → def_Right.f k kd c s v l t = some rb ∧ monticuleref07_Right.f k kd c s v l t = some rb ∧ (rb = true → (kd = 1 ∨ kd = 2) ∧ (c.size ≤ 100000 ∧ s.size ≤ 100000 ∧ v.length ≤ 1000000 ∧ l.size ≤ 100000 ∧ t.size ≤ 100000) ∧ (∀ x ∈ v, x.size ≤ 100000) ∧
      monticuleref01_Num.f k 7 = some (n7, true) ∧ monticuleref07_Octets.f k kd c s v l t = some od ∧ ([] ++ be4 7) ++ defO kd c s v l t = ob ∧ n7 ++ od = strOfNums ob ∧ ob.length ≤ 90000 ∧ BytesOk ob ∧ numR ob 0 = (7, o1, 0) ∧ BytesOk o1 ∧ o1.length ≤ 100000 ∧ readR o1 0 = (⟨kd, c, s, v, l, t⟩, 0, [], 0) ∧
      monticuleref07_Same.f k kd c s v l t kd c s v l t = some true)) := by
  obtain ⟨K0, h0⟩ := ev_out awake07_val
  obtain ⟨K1, h1⟩ := ev_out (Small_val kd c s v l t)
  obtain ⟨K3, h3⟩ := ev_out (Num_val 7 (by decide) (by decide))
  by_cases hsm : smallD kd c s v l t = true
  · obtain ⟨a1, a2, a3, a4, a5, a6⟩ := smallD_of hsm
    obtain ⟨K2, h2⟩ := ev_out (Right_val kd c s v l t (by omega) (by omega))
    obtain ⟨K4, h4⟩ := ev_out (refRight_val kd c s v l t (by omega) (fun x hx => by have := a6 x hx; omega) (by omega) (by omega) (by omega))
    obtain ⟨K5, h5⟩ := ev_out (refDSame_val kd c s v l t kd c s v l t (by omega))
    rw [show sameD kd c s v l t kd c s v l t = true by simp [sameD]] at h5
    by_cases hrb : rightD kd c s v l t = true
    · have hkd := rightD_kd hrb
      have hx : ∀ x ∈ v, x.size ≤ 100000 := fun x h => by have := a6 x h; omega
      obtain ⟨K6, h6⟩ := ev_out (Octets_val kd c s v l t hkd (by omega) (by omega) (by omega) (by omega) (by omega) hx)
      have hl := defO_len kd c s v l t a1 a2 a3 a4 a5 a6
      refine ⟨K0 + K1 + K2 + K3 + K4 + K5 + K6, smallD kd c s v l t, rightD kd c s v l t, strOfNums (be4 7), strOfNums (defO kd c s v l t), ([] ++ be4 7) ++ defO kd c s v l t, defO kd c s v l t, h0 _ (by omega), h1 _ (by omega), fun _ => ⟨h2 _ (by omega), h4 _ (by omega), fun _ =>
        ⟨hkd, ⟨by omega, by omega, by omega, by omega, by omega⟩, hx, h3 _ (by omega), h6 _ (by omega), rfl, by rw [List.nil_append, strOf_append], by rw [List.length_append]; show 4 + _ ≤ _; omega, BytesOk.app (be4_ok 7) (defO_ok _ _ _ _ _ _), numR_back 7 _ (by decide) (by decide), defO_ok _ _ _ _ _ _, by omega,
          readR_back kd c s v l t hrb (by omega) (by omega) (by omega) (by omega) (by omega) hx, h5 _ (by omega)⟩⟩⟩
    · exact ⟨K0 + K1 + K2 + K4, smallD kd c s v l t, rightD kd c s v l t, ⟨#[]⟩, ⟨#[]⟩, [], [], h0 _ (by omega), h1 _ (by omega), fun _ => ⟨h2 _ (by omega), h4 _ (by omega), fun h => absurd h hrb⟩⟩
  · exact ⟨K0 + K1, smallD kd c s v l t, false, ⟨#[]⟩, ⟨#[]⟩, [], [], h0 _ (by omega), h1 _ (by omega), fun h => absurd h hsm⟩
end Go.Proofs.YtjloioalhgifbaaDoor.Pure
