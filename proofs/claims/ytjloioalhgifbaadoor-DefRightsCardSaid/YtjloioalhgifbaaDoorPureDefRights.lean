/- DefRights' plain statement: which definitions are right, their keys, which are alike, their order. -/
import Derived.Test.YtjloioalhgifbaaDoorPAllx10
import Derived.Test.YtjloioalhgifbaaDoorPe
namespace Go.Proofs.YtjloioalhgifbaaDoor.Pure
open Go.RowKit Go.Proofs.YtjloioalhgifbaaDoor.PAll Go.Proofs.YtjloioalhgifbaaDoorW.PrintWords Go.Proofs.YtjloioalhgifbaaDoorW.PrintLast
theorem DefRights (kd : Int) (c s : ByteArray) (v : List ByteArray) (l t : ByteArray) (kd' : Int) (c' s' : ByteArray) (v' : List ByteArray) (l' t' : ByteArray) : ∃ k, monticulelaw07_DefRights.f k kd c s v l t kd' c' s' v' l' t' = some true := by
  obtain ⟨K0, hw⟩ := ev_out awake07_val
  obtain ⟨K1, h1⟩ := ev_out (Small_val kd c s v l t)
  obtain ⟨K2, h2⟩ := ev_out (Small_val kd' c' s' v' l' t')
  have hnot : Ev (fun k => monticulelaw07_DefRights.j0 k true kd c s v l t kd' c' s' v' l' t') true := ev_mk1 K0 (fun m hm => by rw [monticulelaw07_DefRights.j0, if_pos rfl, hw m hm, Option.bind_some])
  have hyes : smallD kd c s v l t = true → smallD kd' c' s' v' l' t' = true → Ev (fun k => monticulelaw07_DefRights.j0 k false kd c s v l t kd' c' s' v' l' t') true := by
    intro s1 s2
    obtain ⟨a1, a2, a3, a4, a5, a6⟩ := smallD_of s1
    obtain ⟨b1, b2, b3, b4, b5, b6⟩ := smallD_of s2
    obtain ⟨K3, h3⟩ := ev_out (refKey_val kd c s v l t (by omega) (fun x hx => by have := a6 x hx; omega) (by omega) (by omega) (by omega))
    obtain ⟨K4, h4⟩ := ev_out (refKey_val kd' c' s' v' l' t' (by omega) (fun x hx => by have := b6 x hx; omega) (by omega) (by omega) (by omega))
    obtain ⟨K5, h5⟩ := ev_out (Right_val kd c s v l t (by omega) (by omega))
    obtain ⟨K6, h6⟩ := ev_out (refRight_val kd c s v l t (by omega) (fun x hx => by have := a6 x hx; omega) (by omega) (by omega) (by omega))
    obtain ⟨K7, h7⟩ := ev_out (Key_val kd c s v l t (by omega) (by omega) (by omega))
    obtain ⟨K8, h8⟩ := ev_out (DSame_val kd c s v l t kd' c' s' v' l' t' (by omega))
    obtain ⟨K9, h9⟩ := ev_out (refDSame_val kd c s v l t kd' c' s' v' l' t' (by omega))
    obtain ⟨K10, h10⟩ := ev_out (Compare_val kd c s v l t kd' c' s' v' l' t' (by omega) (by omega) (by omega) (by omega) (by omega) (by omega))
    have hks := key_size (kd := kd) (s := s) (v := v) (t := t) a1 a4
    obtain ⟨K11, h11⟩ := ev_out (Split_val (keyD kd c s v l t) (by omega))
    have hj3 : Ev (fun k => monticulelaw07_DefRights.j3 k (keyD kd c s v l t) (keyD kd' c' s' v' l' t') false kd c s v l t kd' c' s' v' l' t') true := by
      refine ev_mk1 (max K5 K11) (fun m hm => ?_)
      rw [monticulelaw07_DefRights.j3, if_neg (by decide), h5 m (by omega), Option.bind_some, h11 m (by omega), Option.bind_some]
      by_cases he : keyD kd c s v l t = noB
      · rw [if_pos ((toList_nil _).2 he), key_empty.1 he]; rfl
      · have hr := right_of_key he
        rw [if_neg (fun h => he ((toList_nil _).1 h)), key_split hr]
        rw [if_pos rfl, if_pos rfl, if_pos rfl]
        by_cases hxy : keyD kd c s v l t = keyD kd' c' s' v' l' t'
        · rw [if_pos ((toList_eq _ _).2 hxy)]
          have hr' := right_of_key (fun h => he (hxy.trans h))
          rw [key_kind hr hr' hxy]; simp
        · rw [if_neg (fun h => hxy ((toList_eq _ _).1 h))]
    obtain ⟨K12, h12⟩ := ev_out hj3
    have hj2 : Ev (fun k => monticulelaw07_DefRights.j2 k (keyD kd c s v l t) (keyD kd' c' s' v' l' t') (cmpB (keyD kd c s v l t) (keyD kd' c' s' v' l' t')) kd c s v l t kd' c' s' v' l' t') true := by
      refine ev_mk1 (max (max (max K5 K6) (max K7 K8)) (max (max K9 K10) K12)) (fun m hm => ?_)
      rw [monticulelaw07_DefRights.j2, h5 m (by omega), Option.bind_some, h6 m (by omega), Option.bind_some, if_neg (by simp), h7 m (by omega), Option.bind_some, if_pos rfl, h8 m (by omega), Option.bind_some, h9 m (by omega), Option.bind_some, if_neg (by simp), h10 m (by omega), Option.bind_some, show (cmpB (keyD kd c s v l t) (keyD kd' c' s' v' l' t') != cmpB (keyD kd c s v l t) (keyD kd' c' s' v' l' t')) = false by simp]
      exact h12 m (by omega)
    have ho := order_cmp (keyD kd c s v l t) (keyD kd' c' s' v' l' t')
    obtain ⟨K13, h13⟩ := ev_out hj2
    have hj1 : Ev (fun k => monticulelaw07_DefRights.j1 k (keyD kd c s v l t) (keyD kd' c' s' v' l' t') (if Op.bytesLess (keyD kd c s v l t).toList (keyD kd' c' s' v' l' t').toList = true then -1 else 0) kd c s v l t kd' c' s' v' l' t') true := by
      refine ev_mk1 K13 (fun m hm => ?_)
      have hh := h13 m hm
      rw [← ho] at hh
      rw [monticulelaw07_DefRights.j1]
      by_cases hl : Op.bytesLess (keyD kd' c' s' v' l' t').toList (keyD kd c s v l t).toList = true
      · rw [if_pos hl] at hh
        rw [if_pos hl]; exact hh
      · rw [if_neg hl] at hh
        rw [if_neg hl]; exact hh
    obtain ⟨K14, h14⟩ := ev_out hj1
    refine ev_mk1 (max (max K3 K4) K14) (fun m hm => ?_)
    have hh := h14 m (by omega)
    rw [monticulelaw07_DefRights.j0, if_neg (by decide), h3 m (by omega), Option.bind_some, h4 m (by omega), Option.bind_some]
    by_cases hl : Op.bytesLess (keyD kd c s v l t).toList (keyD kd' c' s' v' l' t').toList = true
    · rw [if_pos hl] at hh
      rw [if_pos hl]; exact hh
    · rw [if_neg hl] at hh
      rw [if_neg hl]; exact hh
  obtain ⟨K3, h3⟩ := ev_out hnot
  cases s1 : smallD kd c s v l t with
  | false =>
    refine Ev.rounds (ev_mk (max (max K0 K1) K3) (fun k hk => ?_))
    unfold monticulelaw07_DefRights.f
    rw [hw k (by omega), Option.bind_some, if_pos rfl, h1 k (by omega), s1, Option.bind_some, if_neg (by decide)]
    exact h3 k (by omega)
  | true =>
    cases s2 : smallD kd' c' s' v' l' t' with
    | false =>
      refine Ev.rounds (ev_mk (max (max K0 K1) (max K2 K3)) (fun k hk => ?_))
      unfold monticulelaw07_DefRights.f
      rw [hw k (by omega), Option.bind_some, if_pos rfl, h1 k (by omega), s1, Option.bind_some, if_pos rfl, h2 k (by omega), s2, Option.bind_some]
      exact h3 k (by omega)
    | true =>
      obtain ⟨K4, h4⟩ := ev_out (hyes s1 s2)
      refine Ev.rounds (ev_mk (max (max K0 K1) (max K2 K4)) (fun k hk => ?_))
      unfold monticulelaw07_DefRights.f
      rw [hw k (by omega), Option.bind_some, if_pos rfl, h1 k (by omega), s1, Option.bind_some, if_pos rfl, h2 k (by omega), s2, Option.bind_some]
      exact h4 k (by omega)
end Go.Proofs.YtjloioalhgifbaaDoor.Pure
