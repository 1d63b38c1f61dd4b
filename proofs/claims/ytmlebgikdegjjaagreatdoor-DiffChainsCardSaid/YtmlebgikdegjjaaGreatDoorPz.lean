/- Small plain laws of definitions: their keys, whether they are right, whether two are the same. -/
import Derived.Test.YtmlebgikdegjjaaGreatDoorPAllx2
import Derived.Test.YtmlebgikdegjjaaGreatDoorPAllx0
import Derived.Test.YtmlebgikdegjjaaGreatDoorPAllx0
import Derived.Test.YtmlebgikdegjjaaGreatDoorPAllx3
import Derived.Test.YtmlebgikdegjjaaGreatDoorPAllx0
import Derived.Test.YtmlebgikdegjjaaGreatDoorPAllx3
import Derived.Test.YtmlebgikdegjjaaGreatDoorPAllx0
import Derived.Test.YtmlebgikdegjjaaGreatDoorPAllx3
import Derived.Test.YtmlebgikdegjjaaGreatDoorPAllx0
import Derived.Test.YtmlebgikdegjjaaGreatDoorPAllx0
import Derived.Test.YtmlebgikdegjjaaGreatDoorPAllx0
import Derived.Test.YtmlebgikdegjjaaGreatDoorPAllx3
import Derived.Test.YtmlebgikdegjjaaGreatDoorPAllx0
import Derived.Test.YtmlebgikdegjjaaGreatDoorPAllx3
import Derived.Test.YtmlebgikdegjjaaGreatDoorPAllx0
import Derived.Test.YtmlebgikdegjjaaGreatDoorPAllx3
import Derived.Test.YtmlebgikdegjjaaGreatDoorPAllx8
import Derived.Test.YtmlebgikdegjjaaGreatDoorPt
import Derived.Test.YtmlebgikdegjjaaGreatDoorPAllx0
import Derived.Test.YtmlebgikdegjjaaGreatDoorPAllx0
import Derived.Test.YtmlebgikdegjjaaGreatDoorPAllx0
import Derived.Test.YtmlebgikdegjjaaGreatDoorPAllx3
import Derived.Test.YtmlebgikdegjjaaGreatDoorPAllx0
import Derived.Test.YtmlebgikdegjjaaGreatDoorPAllx3
import Derived.Test.YtmlebgikdegjjaaGreatDoorPAllx0
import Derived.Test.YtmlebgikdegjjaaGreatDoorPAllx3
import Derived.Test.YtmlebgikdegjjaaGreatDoorPAllx8
import Derived.Test.YtmlebgikdegjjaaGreatDoorPt
import Derived.Test.YtmlebgikdegjjaaGreatDoorUg
import Derived.Test.YtmlebgikdegjjaaGreatDoorSd
namespace Go.Proofs.YtmlebgikdegjjaaGreatDoor.PAll
open Go.RowKit Go.Proofs.YtmlebgikdegjjaaGreatDoorW.PrintWords Go.Proofs.YtmlebgikdegjjaaGreatDoorW.PrintLast
open Go.Proofs.YtmlebgikdegjjaaGreatDoor.Hd (empty_)
set_option linter.unusedVariables false
abbrev SD:=S34
def keyS (d : SD) : ByteArray:=keyD d.f0 d.f1 d.f2 d.f3 d.f4 d.f5
def smallB (d : SD) : Bool:=smallD d.f0 d.f1 d.f2 d.f3 d.f4 d.f5
def rightB (d : SD) : Bool:=rightD d.f0 d.f1 d.f2 d.f3 d.f4 d.f5
def smS (x y : SD) : Bool:=sameD x.f0 x.f1 x.f2 x.f3 x.f4 x.f5 y.f0 y.f1 y.f2 y.f3 y.f4 y.f5
theorem smS_self (x : SD) : smS x x = true:=by
 unfold smS sameD
 simp
theorem all_ev {α β : Type} {g : α → Nat → Option β} {v : α → β} : ∀ (l : List α),(∀ x ∈ l,Ev (g x) (v x)) → ∃ K,∀ k,K ≤ k → ∀ x ∈ l,g x k = some (v x)
 | [],_=>⟨0,fun k _ p hp=>by cases hp⟩
 | p :: ps,h=>by
  obtain ⟨K1,h1⟩:=ev_out (h p (List.mem_cons_self ..))
  obtain ⟨K2,h2⟩:=all_ev ps (fun x hx=>h x (List.mem_cons_of_mem _ hx))
  refine ⟨K1 + K2,fun k hk x hx=>?_⟩
  rcases List.mem_cons.1 hx with rfl | hx
  ·exact h1 k (by omega)
  ·exact h2 k (by omega) x hx
theorem all_ev2 {α β : Type} {g : α → α → Nat → Option β} {v : α → α → β} (l m : List α) (h : ∀ x ∈ l,∀ y ∈ m,Ev (g x y) (v x y)) : ∃ K,∀ k,K ≤ k → ∀ x ∈ l,∀ y ∈ m,g x y k = some (v x y):=by
 obtain ⟨K,hK⟩:=all_ev (g:=fun p : α × α=>g p.1 p.2) (v:=fun p=>v p.1 p.2) (l.flatMap fun x=>m.map fun y=>(x,y)) (fun p hp=>by
  obtain ⟨x,hx,hp⟩:=List.mem_flatMap.1 hp
  obtain ⟨y,hy,rfl⟩:=List.mem_map.1 hp
  exact h x hx y hy)
 exact ⟨K,fun k hk x hx y hy=>hK k hk (x,y) (List.mem_flatMap.2 ⟨x,hx,List.mem_map.2 ⟨y,hy,rfl⟩⟩)⟩
theorem key_ev {d : SD} (h : smallB d = true) : Ev (fun k=>def_Key.f k d.f0 d.f1 d.f2 d.f3 d.f4 d.f5) (keyS d):=by
 obtain ⟨a1,a2,a3,a4,a5,a6⟩:=smallD_of h
 exact Key_val _ _ _ _ _ _ (by omega) (by omega) (by omega)
theorem key_lens {d : SD} (h : smallB d = true) : (keyS d).size ≤ 1000000 ∧ d.f3.length ≤ 1000000:=by
 obtain ⟨a1,a2,a3,a4,a5,a6⟩:=smallD_of h
 exact ⟨by have:=key_size (kd:=d.f0) (s:=d.f2) (v:=d.f3) (t:=d.f5) a1 a4;unfold keyS;omega,by omega⟩
theorem same_ev {x y : SD} (h : smallB x = true) : Ev (fun k=>def_Same.f k x.f0 x.f1 x.f2 x.f3 x.f4 x.f5 y.f0 y.f1 y.f2 y.f3 y.f4 y.f5) (smS x y):=by
 obtain ⟨a1,a2,a3,a4,a5,a6⟩:=smallD_of h
 exact DSame_val _ _ _ _ _ _ _ _ _ _ _ _ (by omega)
theorem right_key {d : SD} (h : rightB d = true) : 0 < (keyS d).size:=by
 rcases Nat.eq_zero_or_pos (keyS d).size with h0 | h0
 ·have h1 : keyD d.f0 d.f1 d.f2 d.f3 d.f4 d.f5 = noB:=empty_ h0
  have h2 : rightB d = false:=key_empty.1 h1
  rw [h2] at h
  cases h
 ·exact h0
theorem wrong_key {d : SD} (h : rightB d = false) : keyS d = ⟨#[]⟩:=key_empty.2 h
end Go.Proofs.YtmlebgikdegjjaaGreatDoor.PAll
