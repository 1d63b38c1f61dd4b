/- The reference's Both, of right pairs. -/
import Derived.Test.YtiokegmpooildaaPv
namespace Go.Proofs.Ytiokegmpooildaa.Hp
open Go.RowKit Go.Proofs.YtiokegmpooildaaW.PrintWords Go.Proofs.YtiokegmpooildaaW.PrintLast Go.Proofs.YtiokegmpooildaaW.PrintMore Go.Proofs.Ytiokegmpooildaa.PAll Go.Proofs.Ytiokegmpooildaa.Rb
set_option linter.unusedVariables false
set_option linter.unusedSimpArgs false
theorem half64 {a : Int} (h : W64 a) : wrap64 (IntKind.u64.wrap (Int.tdiv a 2)) = a / 2 := by
  unfold W64 at h
  rw [Int.tdiv_eq_ediv_of_nonneg h.1]
  have e2 : IntKind.u64.wrap (a / 2) = (a / 2) % 18446744073709551616 := by kernel_rfl
  rw [e2]
  unfold wrap64
  omega
theorem both_l0 (l : List S53) (hl : l.length ≤ 5000) (ps : List S38) (hm : ps.length ≤ 100000) (hw : ∀ p ∈ ps, W64 p.f0 ∧ W64 p.f1) : ∀ (d k : Nat) (i : Int) (out : List S53), 0 ≤ i → i + d = ps.length → d < k → out.length = l.length → Apart l.length (ps.drop i.toNat) →
    (∀ p ∈ ps.drop i.toNat, rd_T53 out (p.f0 / 2) = rd_T53 l (p.f0 / 2) ∧ rd_T53 out (p.f1 / 2) = rd_T53 l (p.f1 / 2)) → monticuleref20_Both.l0 k l ps out i = some (swapN out (ps.drop i.toNat))
  | 0, k, i, out, h0, hd, hk, ho, ha, he => by
    obtain ⟨m, rfl⟩ : ∃ m, k = m + 1 := ⟨k - 1, by omega⟩
    simp only [monticuleref20_Both.l0]
    rw [if_neg (by omega), List.drop_of_length_le (by omega)]
    rfl
  | d + 1, k, i, out, h0, hd, hk, ho, ha, he => by
    obtain ⟨m, rfl⟩ : ∃ m, k = m + 1 := ⟨k - 1, by omega⟩
    have hmem := rd38_mem (xs := ps) h0 (by omega)
    have hW := hw _ hmem
    rw [drop38 ps i h0 (by omega)] at ha he ⊢
    have hp := ha.1 _ (List.mem_cons_self ..)
    have hp' := hp
    unfold ia ib at hp'
    have hW' := hW
    unfold W64 at hW'
    have hh := he _ (List.mem_cons_self ..)
    simp only [monticuleref20_Both.l0, half64 hW.1, half64 hW.2]
    rw [if_pos (by omega), if_pos h0, if_pos (by omega), if_pos (by omega), if_pos (by omega), if_pos (by omega), if_pos (by omega), if_pos (by omega), w64_next h0 (n := ps.length) (by omega) (by omega)]
    have e1 : (out.set ((rd_T38 ps i).f0 / 2).toNat (⟨(rd_T53 l ((rd_T38 ps i).f1 / 2)).f0, (rd_T53 l ((rd_T38 ps i).f1 / 2)).f1, (rd_T53 l ((rd_T38 ps i).f1 / 2)).f2⟩ : S53)).set ((rd_T38 ps i).f1 / 2).toNat (⟨(rd_T53 l ((rd_T38 ps i).f0 / 2)).f0, (rd_T53 l ((rd_T38 ps i).f0 / 2)).f1, (rd_T53 l ((rd_T38 ps i).f0 / 2)).f2⟩ : S53) = swap2 out (rd_T38 ps i) := by
      unfold swap2
      rw [hh.1, hh.2]
    rw [e1, swapN_cons]
    refine both_l0 l hl ps hm hw d m (i + 1) _ (by omega) (by omega) (by omega) (by rw [← ho]; exact sw_length _ _ _) ha.tail (fun q hq => ?_)
    have hq2 := he q (List.mem_cons_of_mem _ hq)
    have hne := (List.pairwise_cons.1 ha.2).1 q hq
    have key : ∀ x : Nat, x ≠ ia (rd_T38 ps i) → x ≠ ib (rd_T38 ps i) → (swap2 out (rd_T38 ps i)).getD x z53 = out.getD x z53 := by
      intro x h1 h2
      rw [swap2_sw, List.getD_eq_getElem?_getD, List.getD_eq_getElem?_getD, sw_get out _ _ x (by rw [ho]; exact hp.1) (by rw [ho]; exact hp.2), if_neg h2, if_neg h1]
    refine ⟨?_, ?_⟩
    · rw [← hq2.1]
      exact key (ia q) (fun e => hne.1 e.symm) (fun e => hne.2.2.1 e.symm)
    · rw [← hq2.2]
      exact key (ib q) (fun e => hne.2.1 e.symm) (fun e => hne.2.2.2 e.symm)
theorem both_val (l : List S53) (hl : l.length ≤ 5000) (ps : List S38) (hm : ps.length ≤ 100) (hw : ∀ p ∈ ps, W64 p.f0 ∧ W64 p.f1) (h : rightP l.length ps = true) : monticuleref20_Both.f 200 l ps = some (swapN l ps) := by
  unfold monticuleref20_Both.f
  simp only [Option.bind_some]
  rw [if_pos (by simp only [List.length_nil]; omega), List.nil_append]
  exact both_l0 l hl ps (by omega) hw ps.length 200 0 l (by omega) (by omega) (by omega) rfl (rightP_apart h hw) (fun _ _ => ⟨rfl, rfl⟩)
end Go.Proofs.Ytiokegmpooildaa.Hp
