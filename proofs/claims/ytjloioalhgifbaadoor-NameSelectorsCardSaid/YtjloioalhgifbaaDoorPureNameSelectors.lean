/- NameSelectors' plain statement: the program's kind, arguments and parts of any selector are the document's. -/
import Derived.Test.YtjloioalhgifbaaDoorPAllx4
import Derived.Test.YtjloioalhgifbaaDoorPn
namespace Go.Proofs.YtjloioalhgifbaaDoor.Pure
open Go.RowKit Go.Proofs.YtjloioalhgifbaaDoor.PAll Go.Proofs.YtjloioalhgifbaaDoorW.PrintWords Go.Proofs.YtjloioalhgifbaaDoorW.PrintLast
theorem NameSelectors : monticulelaw06_NameSelectors.Pure := by
  intro s hs
  refine Ev.rounds (Ev.congr (f := fun k => monticulelaw06_NameSelectors.j0 k s (decide ((s.size : Int) > 600))) (fun k => by unfold monticulelaw06_NameSelectors.f; rw [awake06_val, Option.bind_some, if_pos rfl]) ?_)
  by_cases h6 : (s.size : Int) > 600
  · refine Ev.step (f := fun _ => some true) (fun k => ?_) (Ev.now _)
    rw [monticulelaw06_NameSelectors.j0, if_pos (decide_eq_true h6), awake06_val, Option.bind_some]
  · obtain ⟨K1, h1⟩ := ev_out (refKind_val s (by omega))
    obtain ⟨K2, h2⟩ := ev_out (refArgs_val s (by omega))
    obtain ⟨K3, h3⟩ := ev_out (refParts_val s (by omega))
    have hlen : ((Nm.partsN (BL s)).map mkB).length ≤ 140737488355328 := by
      rw [List.length_map]
      exact partsN_len _
    obtain ⟨K4, h4⟩ := ev_out (Same_val ((Nm.partsN (BL s)).map mkB) ((Nm.partsN (BL s)).map mkB) hlen)
    refine ev_mk1 (max (max K1 K2) (max K3 K4)) (fun m hm => ?_)
    rw [monticulelaw06_NameSelectors.j0, if_neg (by rw [decide_eq_false h6]; decide), Kind_val s (by omega), Option.bind_some, h1 m (by omega), Option.bind_some, if_pos rfl, Args_val s (by omega), Option.bind_some, h2 m (by omega), Option.bind_some, if_pos rfl,
      Parts_val s (by omega), Option.bind_some, h3 m (by omega), Option.bind_some, h4 m (by omega), Option.bind_some, if_pos (decide_eq_true rfl), Option.bind_some, Option.bind_some, args_kind]
    simp
end Go.Proofs.YtjloioalhgifbaaDoor.Pure
