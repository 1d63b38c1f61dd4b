/- DefSplits' plain statement: the parts of any text that is a key: the program's are the document's. -/
import Derived.Test.YtjloioalhgifbaaDoorPAllx7
import Derived.Test.YtjloioalhgifbaaDoorPd
namespace Go.Proofs.YtjloioalhgifbaaDoor.Pure
open Go.RowKit Go.Proofs.YtjloioalhgifbaaDoor.PAll Go.Proofs.YtjloioalhgifbaaDoorW.PrintWords Go.Proofs.YtjloioalhgifbaaDoorW.PrintLast
theorem DefSplits : monticulelaw07_DefSplits.Pure := by
  intro s hs
  obtain ⟨K0, hw⟩ := ev_out awake07_val
  by_cases h6 : (s.size : Int) > 700
  · have hj : Ev (fun k => monticulelaw07_DefSplits.j0 k s true) true := ev_mk1 K0 (fun m hm => by rw [monticulelaw07_DefSplits.j0, if_pos rfl, hw m hm, Option.bind_some])
    obtain ⟨K, hj⟩ := ev_out hj
    refine Ev.rounds (ev_mk (max K K0) (fun k hk => ?_))
    unfold monticulelaw07_DefSplits.f
    rw [hw k (by omega), Option.bind_some, if_pos rfl, decide_eq_true h6]
    exact hj k (by omega)
  · obtain ⟨K1, h1⟩ := ev_out (Split_val s (by omega))
    obtain ⟨K2, h2⟩ := ev_out (refSplit_val s (by omega))
    have hj : Ev (fun k => monticulelaw07_DefSplits.j0 k s false) true := ev_mk1 (max K1 K2) (fun m hm => by
      rw [monticulelaw07_DefSplits.j0, if_neg (by decide), h1 m (by omega), Option.bind_some, h2 m (by omega), Option.bind_some, if_pos rfl, if_pos rfl]
      simp)
    obtain ⟨K, hj⟩ := ev_out hj
    refine Ev.rounds (ev_mk (max K K0) (fun k hk => ?_))
    unfold monticulelaw07_DefSplits.f
    rw [hw k (by omega), Option.bind_some, if_pos rfl, decide_eq_false h6]
    exact hj k (by omega)
end Go.Proofs.YtjloioalhgifbaaDoor.Pure
