/- become.Both. -/
import Derived.Test.YtiokegmpooildaaWi
namespace Go.Proofs.Ytiokegmpooildaa.Hp
open Go.RowKit Go.Proofs.YtiokegmpooildaaW.PrintWords Go.Proofs.YtiokegmpooildaaW.PrintLast Go.Proofs.YtiokegmpooildaaW.PrintMore Go.Proofs.Ytiokegmpooildaa.PAll
set_option linter.unusedVariables false
set_option linter.unusedSimpArgs false

set_option maxHeartbeats 16000000 in
set_option maxRecDepth 100000 in
theorem become_both (g : Nat) (Ap : Option Addr) (cp : Nat) (ps : List S38) (l : List S53) (o wd u : Int) (w : World) (hH : HeapC w g l o wd u) (hs : SmallL l) (hw : WordsL l) (hro : roomP o wd)
    (hC : Kd.C k38 w Ap ps.length ps) (hcp : ps.length ≤ cp) (hps : ∀ p ∈ ps, W64 p.f0 ∧ W64 p.f1) (hm : ps.length ≤ 100000) (he : ofErr l o wd = 0) :
    Calls Try.prog 15 #[.pointer (some ⟨g, 0, none⟩), .slice Ap ps.length cp] w fun e w' =>
      (rightP l.length ps = true → ∃ gn, e = .returned (.tuple #[.pointer (some ⟨gn, 0, none⟩), .int .i64 0]) ∧ HeapO w' gn w.heap.size (fun k => w.heap.size ≤ k) (swapN l ps) o wd (usedL (swapN l ps))) ∧
      (rightP l.length ps = false → e = .returned (.tuple #[.pointer none, .int .i64 61])) ∧ Below w.heap.size w w' := by
  have HR := Aside0.mk hC
  have HP := Aside0.mk hps
  have HH := Aside0.mk hH
  have HS := Aside0.mk hs
  have HW := Aside0.mk hw
  have HO := Aside0.mk hro
  have HCP := Aside0.mk hcp
  clear hH hs hw hro hC hcp hps
  have HC := Aside0.mk (Below.refl w.heap.size w)
  cases hr : rightP l.length ps with
  | false =>
    have HRT := Aside0.mk hr
    go_enter Try.func15, Try.ntmps15
    go_wp2_with (first | ((with_reducible refine gate_dst (N := 3) rfl ?_); refine box_event ?hg (N := 3) ?hd (cs := #[.slice Ap ps.length cp]) (t := 23) ?hr ?_; (case hd => rfl); (case hg => rfl); (case hr => first | (go_simp; done) | (go_simp; rfl)); intro gb hg wbgb hbox hb; have n0_ := Aside0.mk (below_step (by repeat (first | (with_reducible first | exact HC.out | apply below_alloc | apply pw_below_drewN | apply below_drew1) | exact HC.out)) hb); have n1_ := Aside0.mk (hbox); have n2_ := Aside0.mk (by rw [hg]; exact below_size (by repeat (first | (with_reducible first | exact HC.out | apply below_alloc | apply pw_below_drewN | apply below_drew1) | exact HC.out)) : w.heap.size ≤ gb); clear HC; have HC := n0_; have BKgb := n1_; have GEgb := n2_; clear n0_ n1_ n2_; clear hb hbox hg; have hzgb0 : wbgb.cell? ⟨gb, 0, none⟩ = some (.slice Ap ps.length cp) := (blk_cell BKgb.out 0).trans rfl; have hfgb0 := blk_frozen BKgb.out 0) | ((with_reducible refine gate_callee (f := 57) rfl ?_); refine goesL_ (some 9) rfl rfl Try.func57 (by kernel_rfl) rfl #[.pointer (some ⟨g, 0, none⟩), .slice Ap ps.length cp, .func (.func 58) #[] #[.pointer (some ⟨gb, 0, none⟩)]] rfl (by (try simp only [List.map_toArray, List.map_cons, List.map_nil]); first | done | rfl) ?_; (with_reducible refine (with_both g gb Ap cp ps l o wd u _ (HH.out.below (by repeat (first | (with_reducible first | exact HC.out | apply below_alloc | apply pw_below_drewN | apply below_drew1) | exact HC.out))) HS.out HW.out HO.out (Kd.C_below HR.out (by repeat (first | (with_reducible first | exact HC.out | apply below_alloc | apply pw_below_drewN | apply below_drew1) | exact HC.out))) HCP.out hzgb0 HP.out hm).mono ?_); rintro e w' ⟨hy, hn, hb⟩; have n0_ := Aside0.mk (below_step (by repeat (first | (with_reducible first | exact HC.out | apply below_alloc | apply pw_below_drewN | apply below_drew1) | exact HC.out)) hb); obtain rfl := hn HRT.out; clear HC hy hn hb; have HC := n0_; clear n0_; refine ⟨_, rfl, ?_⟩))
    go_ret2
    exact ⟨(fun h => by cases h), (fun _ => rfl), HC.out⟩
  | true =>
    have HRT := Aside0.mk hr
    have HER := Aside0.mk (show ofErr (swapN l ps) o wd = 0 from (ofErr_perm (swapN_perm (rightP_in hr HP.out)) o wd).trans he)
    clear he
    go_enter Try.func15, Try.ntmps15
    go_wp2_with (first | ((with_reducible refine gate_dst (N := 3) rfl ?_); refine box_event ?hg (N := 3) ?hd (cs := #[.slice Ap ps.length cp]) (t := 23) ?hr ?_; (case hd => rfl); (case hg => rfl); (case hr => first | (go_simp; done) | (go_simp; rfl)); intro gb hg wbgb hbox hb; have n0_ := Aside0.mk (below_step (by repeat (first | (with_reducible first | exact HC.out | apply below_alloc | apply pw_below_drewN | apply below_drew1) | exact HC.out)) hb); have n1_ := Aside0.mk (hbox); have n2_ := Aside0.mk (by rw [hg]; exact below_size (by repeat (first | (with_reducible first | exact HC.out | apply below_alloc | apply pw_below_drewN | apply below_drew1) | exact HC.out)) : w.heap.size ≤ gb); clear HC; have HC := n0_; have BKgb := n1_; have GEgb := n2_; clear n0_ n1_ n2_; clear hb hbox hg; have hzgb0 : wbgb.cell? ⟨gb, 0, none⟩ = some (.slice Ap ps.length cp) := (blk_cell BKgb.out 0).trans rfl; have hfgb0 := blk_frozen BKgb.out 0) | ((with_reducible refine gate_callee (f := 57) rfl ?_); refine goesL_ (some 9) rfl rfl Try.func57 (by kernel_rfl) rfl #[.pointer (some ⟨g, 0, none⟩), .slice Ap ps.length cp, .func (.func 58) #[] #[.pointer (some ⟨gb, 0, none⟩)]] rfl (by (try simp only [List.map_toArray, List.map_cons, List.map_nil]); first | done | rfl) ?_; (with_reducible refine (with_both g gb Ap cp ps l o wd u _ (HH.out.below (by repeat (first | (with_reducible first | exact HC.out | apply below_alloc | apply pw_below_drewN | apply below_drew1) | exact HC.out))) HS.out HW.out HO.out (Kd.C_below HR.out (by repeat (first | (with_reducible first | exact HC.out | apply below_alloc | apply pw_below_drewN | apply below_drew1) | exact HC.out))) HCP.out hzgb0 HP.out hm).mono ?_); rintro e w' ⟨hy, hn, hb⟩; have n0_ := Aside0.mk (below_step (by repeat (first | (with_reducible first | exact HC.out | apply below_alloc | apply pw_below_drewN | apply below_drew1) | exact HC.out)) hb); obtain ⟨gn, rfl, hg⟩ := hy HRT.out HER.out; have HG : Aside0 (HeapO _ gn w.heap.size (fun k => w.heap.size ≤ k) (swapN l ps) o wd (usedL (swapN l ps))) := ⟨hg.weaken HC.out.size⟩; clear hg; clear HC hy hn hb; have HC := n0_; clear n0_; refine ⟨_, rfl, ?_⟩))
    go_ret2
    exact ⟨(fun _ => ⟨gn, rfl, HG.out⟩), (fun h => by cases h), HC.out⟩
end Go.Proofs.Ytiokegmpooildaa.Hp
