/- become.with, as become.One calls it. -/
import Derived.Test.YtiokegmpooildaaWi
import Derived.Test.YtiokegmpooildaaOd
namespace Go.Proofs.Ytiokegmpooildaa.Hp
open Go.RowKit Go.Proofs.YtiokegmpooildaaW.PrintWords Go.Proofs.YtiokegmpooildaaW.PrintLast Go.Proofs.YtiokegmpooildaaW.PrintMore Go.Proofs.Ytiokegmpooildaa.PAll
set_option linter.unusedVariables false
set_option linter.unusedSimpArgs false

/-- A map that leads words to words. -/
def WordM (m : Int → Option Int) : Prop := ∀ a t, W64 a → m a = some t → W64 t
theorem turnA_full (m : Int → Option Int) (l : List S53) : turnA m l l.length = l.map (turnO m) := by
  unfold turnA
  rw [List.take_length, List.drop_length, List.append_nil]
theorem SmallL.turned {m : Int → Option Int} {l : List S53} (h : SmallL l) : SmallL (turnA m l l.length) := by
  rw [turnA_full]
  refine ⟨by rw [List.length_map]; exact h.1, fun x hx => ?_⟩
  obtain ⟨y, hy, rfl⟩ := List.mem_map.1 hx
  have := h.2 y hy
  unfold turnO
  exact ⟨by rw [List.length_map]; exact this.1, this.2⟩
theorem WordsL.turned {m : Int → Option Int} {l : List S53} (h : WordsL l) (hm : WordM m) : WordsL (turnA m l l.length) := by
  rw [turnA_full]
  intro x hx
  obtain ⟨y, hy, rfl⟩ := List.mem_map.1 hx
  have := h y hy
  refine ⟨turn1_W hm this.1, fun a ha => ?_⟩
  obtain ⟨b, hb, rfl⟩ := List.mem_map.1 ha
  exact turn1_W hm (this.2 b hb)

set_option maxHeartbeats 16000000 in
set_option maxRecDepth 100000 in
theorem with_one (g ht hq b nn : Nat) (m : Int → Option Int) (Ap : Option Addr) (cp : Nat) (ps : List S38) (l : List S53) (o wd u : Int) (w : World) (hH : HeapC w g l o wd u) (hs : SmallL l) (hw : WordsL l) (hro : roomP o wd)
    (hC : Kd.C k38 w Ap ps.length ps) (hcp : ps.length ≤ cp) (hct : w.cell? ⟨ht, 0, none⟩ = some (.func (.func 62) #[] #[.pointer (some ⟨hq, 0, none⟩)])) (hcm : w.cell? ⟨hq, 0, none⟩ = some (.map (some b))) (hM : MapW w b nn m) (hWM : WordM m) (hps : ∀ p ∈ ps, W64 p.f0 ∧ W64 p.f1) (hm : ps.length ≤ 100000) :
    Calls Try.prog 57 #[.pointer (some ⟨g, 0, none⟩), .slice Ap ps.length cp, .func (.func 63) #[] #[.pointer (some ⟨ht, 0, none⟩)]] w (WithTells (rightP l.length ps) (turnA m l l.length) o wd w) := by
  have HR := Aside0.mk hC
  have HP := Aside0.mk hps
  have HH := Aside0.mk hH
  have HS := Aside0.mk hs
  have HW := Aside0.mk hw
  have HO := Aside0.mk hro
  have HCP := Aside0.mk hcp
  have HL5 := Aside0.mk (show l.length ≤ 5000 from hs.1)
  have HCT := Aside0.mk hct
  have HCM := Aside0.mk hcm
  have HM := Aside0.mk hM
  have HWM := Aside0.mk hWM
  clear hH hs hw hro hC hcp hct hcm hM hWM hps
  have HC := Aside0.mk (Below.refl w.heap.size w)
  cases hr : rightP l.length ps with
  | false =>
    have HRT : Aside0 (rightL l.length (fun k => if k = 0 then true else false) (wordsOf ps) = false) := ⟨hr⟩
    go_enter Try.func57, Try.ntmps57
    go_wp2_with (first | ((with_reducible refine gate_callee (f := 23) rfl ?_); refine goesL_ (some 16) rfl rfl Try.func23 (by kernel_rfl) rfl #[.pointer (some ⟨g, 0, none⟩)] rfl (by (try simp only [List.map_toArray, List.map_cons, List.map_nil]); first | done | rfl | (simp only [List.length_drop, List.length_take]; rfl)) ?_; (with_reducible refine (heap_Len g l o wd u _ (HH.out.below (by repeat (first | (with_reducible first | exact HC.out | apply below_alloc | apply pw_below_drewN | apply below_drew1) | exact HC.out)))).mono ?_); rintro e w' ⟨rfl, ⟨nd, rfl⟩⟩; refine ⟨_, rfl, ?_⟩) | ((with_reducible refine gate_callee (f := 76) rfl ?_); refine goesL_ (some 18) rfl rfl Try.func76 (by kernel_rfl) rfl #[.int .i64 (l.length : Int), .slice Ap ps.length cp] rfl (by (try simp only [List.map_toArray, List.map_cons, List.map_nil]); first | done | rfl | (simp only [List.length_drop, List.length_take]; rfl)) ?_; (with_reducible refine (right_walk l.length Ap cp ps _ (Kd.C_below HR.out (by repeat (first | (with_reducible first | exact HC.out | apply below_alloc | apply pw_below_drewN | apply below_drew1) | exact HC.out))) HP.out hm HL5.out).mono ?_); rintro e w' ⟨rfl, hb⟩; rw [HRT.out]; have n0_ := Aside0.mk (below_step (by repeat (first | (with_reducible first | exact HC.out | apply below_alloc | apply pw_below_drewN | apply below_drew1) | exact HC.out)) hb); clear HC hb; have HC := n0_; clear n0_; refine ⟨_, rfl, ?_⟩))
    go_ret2
    exact ⟨(fun h => by cases h), (fun _ => rfl), (by repeat (first | (with_reducible first | exact HC.out | apply below_alloc | apply pw_below_drewN | apply below_drew1) | exact HC.out))⟩
  | true =>
    have HRT : Aside0 (rightL l.length (fun k => if k = 0 then true else false) (wordsOf ps) = true) := ⟨hr⟩
    go_enter Try.func57, Try.ntmps57
    go_wp2_with (first | ((with_reducible refine gate_callee (f := 23) rfl ?_); refine goesL_ (some 16) rfl rfl Try.func23 (by kernel_rfl) rfl #[.pointer (some ⟨g, 0, none⟩)] rfl (by (try simp only [List.map_toArray, List.map_cons, List.map_nil]); first | done | rfl | (simp only [List.length_drop, List.length_take]; rfl)) ?_; (with_reducible refine (heap_Len g l o wd u _ (HH.out.below (by repeat (first | (with_reducible first | exact HC.out | apply below_alloc | apply pw_below_drewN | apply below_drew1) | exact HC.out)))).mono ?_); rintro e w' ⟨rfl, ⟨nd, rfl⟩⟩; refine ⟨_, rfl, ?_⟩) | ((with_reducible refine gate_callee (f := 76) rfl ?_); refine goesL_ (some 18) rfl rfl Try.func76 (by kernel_rfl) rfl #[.int .i64 (l.length : Int), .slice Ap ps.length cp] rfl (by (try simp only [List.map_toArray, List.map_cons, List.map_nil]); first | done | rfl | (simp only [List.length_drop, List.length_take]; rfl)) ?_; (with_reducible refine (right_walk l.length Ap cp ps _ (Kd.C_below HR.out (by repeat (first | (with_reducible first | exact HC.out | apply below_alloc | apply pw_below_drewN | apply below_drew1) | exact HC.out))) HP.out hm HL5.out).mono ?_); rintro e w' ⟨rfl, hb⟩; rw [HRT.out]; have n0_ := Aside0.mk (below_step (by repeat (first | (with_reducible first | exact HC.out | apply below_alloc | apply pw_below_drewN | apply below_drew1) | exact HC.out)) hb); clear HC hb; have HC := n0_; clear n0_; refine ⟨_, rfl, ?_⟩) | ((with_reducible refine gate_callee (f := 18) rfl ?_); refine goesL_ (some 21) rfl rfl Try.func18 (by kernel_rfl) rfl #[.pointer (some ⟨g, 0, none⟩)] rfl (by (try simp only [List.map_toArray, List.map_cons, List.map_nil]); first | done | rfl | (simp only [List.length_drop, List.length_take]; rfl)) ?_; (with_reducible refine (heap_Objects g l o wd u _ (HH.out.below (by repeat (first | (with_reducible first | exact HC.out | apply below_alloc | apply pw_below_drewN | apply below_drew1) | exact HC.out))) HS.out).mono ?_); rintro e w' ⟨v, rfl, hS, hb⟩; have n0_ := Aside0.mk (Kd.S_lower hS (below_size (by repeat (first | (with_reducible first | exact HC.out | apply below_alloc | apply pw_below_drewN | apply below_drew1) | exact HC.out)))); have n1_ := Aside0.mk (below_step (by repeat (first | (with_reducible first | exact HC.out | apply below_alloc | apply pw_below_drewN | apply below_drew1) | exact HC.out)) hb); clear HC hb hS; have HC := n1_; have HN := n0_; clear n0_ n1_; refine ⟨_, rfl, ?_⟩))
    go_wp2_with (first | (go_at_call 63; (with_reducible refine (one_do ht hq b nn m w.heap.size v l w _ (by repeat (first | exact HN.out | apply Kd.S_drewN | apply Kd.S_drew)) HCT.out HCM.out HM.out (by repeat (first | (with_reducible first | exact HC.out | apply below_alloc | apply pw_below_drewN | apply below_drew1) | exact HC.out)) (Nat.le_refl _) HS.out HW.out).mono ?_); rintro e w' ⟨rfl, hN, hb⟩; have n0_ := Aside0.mk hN; have n1_ := Aside0.mk hb; clear HC HN hN hb; have HC := n1_; have HNN := n0_; clear n0_ n1_) | ((with_reducible refine gate_callee (f := 22) rfl ?_); refine goesL_ (some 27) rfl rfl Try.func22 (by kernel_rfl) rfl #[.pointer (some ⟨g, 0, none⟩)] rfl (by (try simp only [List.map_toArray, List.map_cons, List.map_nil]); first | done | rfl | (simp only [List.length_drop, List.length_take]; rfl)) ?_; (with_reducible refine (heap_Room g l o wd u _ (HH.out.below (by repeat (first | (with_reducible first | exact HC.out | apply below_alloc | apply pw_below_drewN | apply below_drew1) | exact HC.out)))).mono ?_); rintro e w' ⟨rfl, ⟨nd, rfl⟩⟩; refine ⟨_, rfl, ?_⟩))
    obtain ⟨A2, c2, rfl, hl2, hC2⟩ := Kd.S_reads HNN.out
    have CW := Aside0.mk hC2
    have CL := Aside0.mk hl2
    clear hC2 hl2 HNN
    have HS2 := Aside0.mk (SmallL.turned (m := m) HS.out)
    have HW2 := Aside0.mk (WordsL.turned (m := m) HW.out HWM.out)
    by_cases he : ofErr (turnA m l l.length) o wd = 0
    · have HERR := Aside0.mk he
      clear he
      refine (of_room A2 c2 (turnA m l l.length) o wd _ (by repeat (first | exact CW.out | apply Kd.C_drewN | apply Kd.C_drew)) CL.out HS2.out HW2.out HO.out).mono ?_
      rintro e w' ⟨hy, hn, hb⟩
      obtain ⟨gn, rfl, hg⟩ := hy HERR.out
      have n0_ := Aside0.mk (below_step (by repeat (first | (with_reducible first | exact HC.out | apply below_alloc | apply pw_below_drewN | apply below_drew1) | exact HC.out)) hb)
      have n2_ : Aside0 (HeapO _ gn w.heap.size (fun k => w.heap.size ≤ k) (turnA m l l.length) o wd (usedL (turnA m l l.length))) := ⟨hg.weaken HC.out.size⟩
      clear HC hy hn hb hg
      have HC := n0_
      have HG := n2_
      clear n0_ n2_
      go_wp2
      go_ret2
      exact ⟨(fun _ _ => ⟨gn, rfl, HG.out⟩), (fun h => by cases h), HC.out⟩
    · have HERR := Aside0.mk he
      clear he
      refine (of_room A2 c2 (turnA m l l.length) o wd _ (by repeat (first | exact CW.out | apply Kd.C_drewN | apply Kd.C_drew)) CL.out HS2.out HW2.out HO.out).mono ?_
      rintro e w' ⟨hy, hn, hb⟩
      obtain rfl := hn HERR.out
      have n0_ := Aside0.mk (below_step (by repeat (first | (with_reducible first | exact HC.out | apply below_alloc | apply pw_below_drewN | apply below_drew1) | exact HC.out)) hb)
      clear HC hy hn hb
      have HC := n0_
      clear n0_
      go_wp2
      go_ret2
      exact ⟨(fun _ h => absurd h HERR.out), (fun h => by cases h), HC.out⟩
end Go.Proofs.Ytiokegmpooildaa.Hp
