/- become.with, as become.Both calls it; become.Both. -/
import Derived.Test.YtiokegmpooildaaRi
import Derived.Test.YtiokegmpooildaaOf1
namespace Go.Proofs.Ytiokegmpooildaa.Hp
open Go.RowKit Go.Proofs.YtiokegmpooildaaW.PrintWords Go.Proofs.YtiokegmpooildaaW.PrintLast Go.Proofs.YtiokegmpooildaaW.PrintMore Go.Proofs.Ytiokegmpooildaa.PAll
set_option linter.unusedVariables false
set_option linter.unusedSimpArgs false

theorem swap2_perm {l : List S53} {p : S38} (h0 : (p.f0 / 2).toNat < l.length) (h1 : (p.f1 / 2).toNat < l.length) : (swap2 l p).Perm l := by
  have e0 : rd_T53 l (p.f0 / 2) = l[(p.f0 / 2).toNat] := by
    unfold rd_T53
    rw [List.getD_eq_getElem?_getD, List.getElem?_eq_getElem h0]
    rfl
  have e1 : rd_T53 l (p.f1 / 2) = l[(p.f1 / 2).toNat] := by
    unfold rd_T53
    rw [List.getD_eq_getElem?_getD, List.getElem?_eq_getElem h1]
    rfl
  unfold swap2
  rw [e0, e1]
  exact List.set_set_perm h0 h1
theorem swapN_perm {l : List S53} {ps : List S38} (h : PairsIn l.length ps) : (swapN l ps).Perm l := by
  unfold swapN
  induction ps generalizing l with
  | nil => exact List.Perm.refl _
  | cons p r ih =>
    rw [List.foldl_cons]
    have hp := h p (List.mem_cons_self ..)
    have h2 : (swap2 l p).Perm l := swap2_perm (by omega) (by omega)
    refine (ih ?_).trans h2
    rw [h2.length_eq]
    exact fun q hq => h q (List.mem_cons_of_mem _ hq)
theorem usedL_perm {l l' : List S53} (h : l.Perm l') : usedL l = usedL l' := by
  induction h with
  | nil => rfl
  | cons x _ ih => simp only [usedL, ih]
  | swap x y r => simp only [usedL]; omega
  | trans _ _ a b => exact a.trans b
theorem ofErr_perm {l l' : List S53} (h : l.Perm l') (o wd : Int) : ofErr l o wd = ofErr l' o wd := by
  unfold ofErr
  rw [usedL_perm h, h.length_eq, h.any_eq]
  by_cases e : l = []
  · subst e
    have := h.nil_eq
    subst this
    rfl
  · have e' : ¬ l' = [] := fun e2 => e (by subst e2; exact h.eq_nil)
    rw [if_neg e, if_neg e']
theorem SmallL.perm {l l' : List S53} (h : l'.Perm l) (hs : SmallL l) : SmallL l' := ⟨by rw [h.length_eq]; exact hs.1, fun x hx => hs.2 x (h.mem_iff.1 hx)⟩
theorem WordsL.perm {l l' : List S53} (h : l'.Perm l) (hs : WordsL l) : WordsL l' := fun x hx => hs x (h.mem_iff.1 hx)
theorem thereP_in {n : Nat} {a : Int} (h : thereP n a = true) : a % 2 = 0 ∧ a / 2 < (n : Int) := by
  unfold thereP at h
  exact of_decide_eq_true h
theorem rightL_in {n : Nat} {s : Int → Bool} {L : List Int} (h : rightL n s L = true) : ∀ a ∈ L, thereP n a = true := by
  induction L generalizing s with
  | nil => intro a ha; cases ha
  | cons b r ih =>
    unfold rightL at h
    simp only [Bool.and_eq_true] at h
    intro a ha
    rcases List.mem_cons.1 ha with rfl | ha
    · exact h.1.1
    · exact ih h.2 a ha
theorem wordsOf_mem {ps : List S38} {p : S38} (h : p ∈ ps) : p.f0 ∈ wordsOf ps ∧ p.f1 ∈ wordsOf ps := by
  induction ps with
  | nil => cases h
  | cons q r ih =>
    rw [wordsOf_cons]
    rcases List.mem_cons.1 h with rfl | h
    · simp
    · have := ih h
      simp [this.1, this.2]
def rightP (n : Nat) (ps : List S38) : Bool := rightL n (fun k => if k = 0 then true else false) (wordsOf ps)
theorem rightP_in {n : Nat} {ps : List S38} (h : rightP n ps = true) (hw : ∀ p ∈ ps, W64 p.f0 ∧ W64 p.f1) : PairsIn n ps := fun p hp => by
  have h1 := rightL_in h
  have h2 := wordsOf_mem hp
  have h3 := thereP_in (h1 _ h2.1)
  have h4 := thereP_in (h1 _ h2.2)
  have h5 := hw p hp
  unfold W64 at h5
  exact ⟨⟨h5.1.1, h3.2⟩, ⟨h5.2.1, h4.2⟩⟩
/-- What a heap with changed objects comes to. -/
def WithTells (r : Bool) (l' : List S53) (o wd : Int) (w : World) (e : Ending) (w' : World) : Prop :=
  (r = true → ofErr l' o wd = 0 → ∃ g, e = .returned (.tuple #[.pointer (some ⟨g, 0, none⟩), .int .i64 0]) ∧ HeapO w' g w.heap.size (fun k => w.heap.size ≤ k) l' o wd (usedL l')) ∧
  (r = false → e = .returned (.tuple #[.pointer none, .int .i64 61])) ∧ Below w.heap.size w w'
theorem HeapO.weaken {W : World} {g base base' : Nat} {l : List S53} {o wd u : Int} (h : HeapO W g base (fun k => base ≤ k) l o wd u) (hb : base' ≤ base) : HeapO W g base' (fun k => base' ≤ k) l o wd u := by
  obtain ⟨v, h1, h2, h3, h4⟩ := h
  exact ⟨v, h1, Nat.le_trans hb h2, Nat.le_trans hb h3, Kd.S_mono (Kd.S_lower h4 hb) (fun k hk => Nat.le_trans hb hk)⟩

set_option maxHeartbeats 16000000 in
set_option maxRecDepth 100000 in
theorem with_both (g hp : Nat) (Ap : Option Addr) (cp : Nat) (ps : List S38) (l : List S53) (o wd u : Int) (w : World) (hH : HeapC w g l o wd u) (hs : SmallL l) (hw : WordsL l) (hro : roomP o wd)
    (hC : Kd.C k38 w Ap ps.length ps) (hcp : ps.length ≤ cp) (hc : w.cell? ⟨hp, 0, none⟩ = some (.slice Ap ps.length cp)) (hps : ∀ p ∈ ps, W64 p.f0 ∧ W64 p.f1) (hm : ps.length ≤ 100000) :
    Calls Try.prog 57 #[.pointer (some ⟨g, 0, none⟩), .slice Ap ps.length cp, .func (.func 58) #[] #[.pointer (some ⟨hp, 0, none⟩)]] w (WithTells (rightP l.length ps) (swapN l ps) o wd w) := by
  have HR := Aside0.mk hC
  have HP := Aside0.mk hps
  have HH := Aside0.mk hH
  have HS := Aside0.mk hs
  have HW := Aside0.mk hw
  have HO := Aside0.mk hro
  have HCP := Aside0.mk hcp
  have HL5 := Aside0.mk (show l.length ≤ 5000 from hs.1)
  have HHP := Aside0.mk hc
  clear hH hs hw hro hC hcp hc hps
  have HC := Aside0.mk (Below.refl w.heap.size w)
  cases hr : rightP l.length ps with
  | false =>
    have HRT : Aside0 (rightL l.length (fun k => if k = 0 then true else false) (wordsOf ps) = false) := ⟨hr⟩
    go_enter Try.func57, Try.ntmps57
    go_wp2_with (first | ((with_reducible refine gate_callee (f := 23) rfl ?_); refine goesL_ (some 16) rfl rfl Try.func23 (by kernel_rfl) rfl #[.pointer (some ⟨g, 0, none⟩)] rfl (by (try simp only [List.map_toArray, List.map_cons, List.map_nil]); first | done | rfl | (simp only [List.length_drop, List.length_take]; rfl)) ?_; (with_reducible refine (heap_Len g l o wd u _ (HH.out.below (by repeat (first | (with_reducible first | exact HC.out | apply below_alloc | apply pw_below_drewN | apply below_drew1) | exact HC.out)))).mono ?_); rintro e w' ⟨rfl, ⟨nd, rfl⟩⟩; refine ⟨_, rfl, ?_⟩) | ((with_reducible refine gate_callee (f := 76) rfl ?_); refine goesL_ (some 18) rfl rfl Try.func76 (by kernel_rfl) rfl #[.int .i64 (l.length : Int), .slice Ap ps.length cp] rfl (by (try simp only [List.map_toArray, List.map_cons, List.map_nil]); first | done | rfl | (simp only [List.length_drop, List.length_take]; rfl)) ?_; (with_reducible refine (right_walk l.length Ap cp ps _ (Kd.C_below HR.out (by repeat (first | (with_reducible first | exact HC.out | apply below_alloc | apply pw_below_drewN | apply below_drew1) | exact HC.out))) HP.out hm HL5.out).mono ?_); rintro e w' ⟨rfl, hb⟩; rw [HRT.out]; have n0_ := Aside0.mk (below_step (by repeat (first | (with_reducible first | exact HC.out | apply below_alloc | apply pw_below_drewN | apply below_drew1) | exact HC.out)) hb); clear HC hb; have HC := n0_; clear n0_; refine ⟨_, rfl, ?_⟩))
    go_ret2
    exact ⟨(fun h => by cases h), (fun _ => rfl), (by repeat (first | (with_reducible first | exact HC.out | apply below_alloc | apply pw_below_drewN | apply below_drew1) | exact HC.out))⟩
  | true =>
    have HRT : Aside0 (rightL l.length (fun k => if k = 0 then true else false) (wordsOf ps) = true) := ⟨hr⟩
    have HPI := Aside0.mk (rightP_in hr HP.out)
    go_enter Try.func57, Try.ntmps57
    go_wp2_with (first | ((with_reducible refine gate_callee (f := 23) rfl ?_); refine goesL_ (some 16) rfl rfl Try.func23 (by kernel_rfl) rfl #[.pointer (some ⟨g, 0, none⟩)] rfl (by (try simp only [List.map_toArray, List.map_cons, List.map_nil]); first | done | rfl | (simp only [List.length_drop, List.length_take]; rfl)) ?_; (with_reducible refine (heap_Len g l o wd u _ (HH.out.below (by repeat (first | (with_reducible first | exact HC.out | apply below_alloc | apply pw_below_drewN | apply below_drew1) | exact HC.out)))).mono ?_); rintro e w' ⟨rfl, ⟨nd, rfl⟩⟩; refine ⟨_, rfl, ?_⟩) | ((with_reducible refine gate_callee (f := 76) rfl ?_); refine goesL_ (some 18) rfl rfl Try.func76 (by kernel_rfl) rfl #[.int .i64 (l.length : Int), .slice Ap ps.length cp] rfl (by (try simp only [List.map_toArray, List.map_cons, List.map_nil]); first | done | rfl | (simp only [List.length_drop, List.length_take]; rfl)) ?_; (with_reducible refine (right_walk l.length Ap cp ps _ (Kd.C_below HR.out (by repeat (first | (with_reducible first | exact HC.out | apply below_alloc | apply pw_below_drewN | apply below_drew1) | exact HC.out))) HP.out hm HL5.out).mono ?_); rintro e w' ⟨rfl, hb⟩; rw [HRT.out]; have n0_ := Aside0.mk (below_step (by repeat (first | (with_reducible first | exact HC.out | apply below_alloc | apply pw_below_drewN | apply below_drew1) | exact HC.out)) hb); clear HC hb; have HC := n0_; clear n0_; refine ⟨_, rfl, ?_⟩) | ((with_reducible refine gate_callee (f := 18) rfl ?_); refine goesL_ (some 21) rfl rfl Try.func18 (by kernel_rfl) rfl #[.pointer (some ⟨g, 0, none⟩)] rfl (by (try simp only [List.map_toArray, List.map_cons, List.map_nil]); first | done | rfl | (simp only [List.length_drop, List.length_take]; rfl)) ?_; (with_reducible refine (heap_Objects g l o wd u _ (HH.out.below (by repeat (first | (with_reducible first | exact HC.out | apply below_alloc | apply pw_below_drewN | apply below_drew1) | exact HC.out))) HS.out).mono ?_); rintro e w' ⟨v, rfl, hS, hb⟩; have n0_ := Aside0.mk (Kd.N_lower (Kd.S_N hS) (below_size (by repeat (first | (with_reducible first | exact HC.out | apply below_alloc | apply pw_below_drewN | apply below_drew1) | exact HC.out)))); have n1_ := Aside0.mk (below_step (by repeat (first | (with_reducible first | exact HC.out | apply below_alloc | apply pw_below_drewN | apply below_drew1) | exact HC.out)) hb); clear HC hb hS; have HC := n1_; have HN := n0_; clear n0_ n1_; refine ⟨_, rfl, ?_⟩))
    go_wp2_with (first | (go_at_call 58; (with_reducible refine (both_do hp w.heap.size v Ap cp ps l w _ (by repeat (first | exact HN.out | apply Kd.N_drewN | apply Kd.N_drew)) HR.out HCP.out HHP.out (by repeat (first | (with_reducible first | exact HC.out | apply below_alloc | apply pw_below_drewN | apply below_drew1) | exact HC.out)) (Nat.le_refl _) HPI.out hm).mono ?_); rintro e w' ⟨rfl, hN, hb⟩; have n0_ := Aside0.mk hN; have n1_ := Aside0.mk hb; clear HC HN hN hb; have HC := n1_; have HNN := n0_; clear n0_ n1_) | ((with_reducible refine gate_callee (f := 22) rfl ?_); refine goesL_ (some 27) rfl rfl Try.func22 (by kernel_rfl) rfl #[.pointer (some ⟨g, 0, none⟩)] rfl (by (try simp only [List.map_toArray, List.map_cons, List.map_nil]); first | done | rfl | (simp only [List.length_drop, List.length_take]; rfl)) ?_; (with_reducible refine (heap_Room g l o wd u _ (HH.out.below (by repeat (first | (with_reducible first | exact HC.out | apply below_alloc | apply pw_below_drewN | apply below_drew1) | exact HC.out)))).mono ?_); rintro e w' ⟨rfl, ⟨nd, rfl⟩⟩; refine ⟨_, rfl, ?_⟩))
    obtain ⟨A2, c2, rfl, hl2, hC2⟩ := Kd.N_reads HNN.out
    have CW := Aside0.mk hC2
    have CL := Aside0.mk hl2
    clear hC2 hl2 HNN
    have HPM := swapN_perm HPI.out
    have HS2 := Aside0.mk (SmallL.perm HPM HS.out)
    have HW2 := Aside0.mk (WordsL.perm HPM HW.out)
    clear HPM
    by_cases he : ofErr (swapN l ps) o wd = 0
    · have HERR := Aside0.mk he
      clear he
      refine (of_room A2 c2 (swapN l ps) o wd _ (by repeat (first | exact CW.out | apply Kd.C_drewN | apply Kd.C_drew)) CL.out HS2.out HW2.out HO.out).mono ?_
      rintro e w' ⟨hy, hn, hb⟩
      obtain ⟨gn, rfl, hg⟩ := hy HERR.out
      have n0_ := Aside0.mk (below_step (by repeat (first | (with_reducible first | exact HC.out | apply below_alloc | apply pw_below_drewN | apply below_drew1) | exact HC.out)) hb)
      have n2_ : Aside0 (HeapO _ gn w.heap.size (fun k => w.heap.size ≤ k) (swapN l ps) o wd (usedL (swapN l ps))) := ⟨hg.weaken HC.out.size⟩
      clear HC hy hn hb hg
      have HC := n0_
      have HG := n2_
      clear n0_ n2_
      go_wp2
      go_ret2
      exact ⟨(fun _ _ => ⟨gn, rfl, HG.out⟩), (fun h => by cases h), HC.out⟩
    · have HERR := Aside0.mk he
      clear he
      refine (of_room A2 c2 (swapN l ps) o wd _ (by repeat (first | exact CW.out | apply Kd.C_drewN | apply Kd.C_drew)) CL.out HS2.out HW2.out HO.out).mono ?_
      rintro e w' ⟨hy, hn, hb⟩
      obtain rfl := hn HERR.out
      have n0_ := Aside0.mk (below_step (by repeat (first | (with_reducible first | exact HC.out | apply below_alloc | apply pw_below_drewN | apply below_drew1) | exact HC.out)) hb)
      clear HC hy hn hb
      have HC := n0_
      clear n0_
      go_wp2
      go_ret2
      exact ⟨(fun _ h => absurd h HERR.out), (fun h => by cases h), HC.out⟩
end Go.Proofs.Ytiokegmpooildaa.Hp
