/- NameKinds' plain statement: which texts are names, classes', variables', and of classes that are there always: the program's answers are the document's. -/
import Derived.Test.YtjloioalhgifbaaDoorPAllx5
import Derived.Test.YtjloioalhgifbaaDoorPk
namespace Go.Proofs.YtjloioalhgifbaaDoor.Pure
open Go.RowKit Go.Proofs.YtjloioalhgifbaaDoor.PAll Go.Proofs.YtjloioalhgifbaaDoorW.PrintWords Go.Proofs.YtjloioalhgifbaaDoorW.PrintLast
theorem NameKinds : monticulelaw06_NameKinds.Pure := by
  intro s hs
  refine Ev.rounds (Ev.congr (f := fun k => monticulelaw06_NameKinds.j0 k s (decide ((s.size : Int) > 300))) (fun k => by unfold monticulelaw06_NameKinds.f; rw [awake06_val, Option.bind_some, if_pos rfl]) ?_)
  by_cases h6 : (s.size : Int) > 300
  · refine Ev.step (f := fun _ => some true) (fun k => ?_) (Ev.now _)
    rw [monticulelaw06_NameKinds.j0, if_pos (decide_eq_true h6), awake06_val, Option.bind_some]
  · obtain ⟨K1, h1⟩ := ev_out (refIs_val s hs)
    obtain ⟨K2, h2⟩ := ev_out (refClass_val s hs)
    obtain ⟨K3, h3⟩ := ev_out (refVar_val s hs)
    obtain ⟨K4, h4⟩ := ev_out (refAlways_val s)
    obtain ⟨K5, h5⟩ := ev_out (Var_val s)
    obtain ⟨K6, h7⟩ := ev_out (Always_val s)
    refine ev_mk1 (max (max (max K1 K2) (max K3 K4)) (max K5 K6)) (fun m hm => ?_)
    rw [monticulelaw06_NameKinds.j0, if_neg (by rw [decide_eq_false h6]; decide)]
    unfold name_Is.f
    rw [Option.bind_some, h1 m (by omega), Option.bind_some, if_pos (by simp), class_val, Option.bind_some, h2 m (by omega), Option.bind_some, if_pos (by simp), h5 m (by omega), Option.bind_some, h3 m (by omega), Option.bind_some, if_pos (by simp), h7 m (by omega), Option.bind_some, h4 m (by omega), Option.bind_some]
    simp
end Go.Proofs.YtjloioalhgifbaaDoor.Pure
