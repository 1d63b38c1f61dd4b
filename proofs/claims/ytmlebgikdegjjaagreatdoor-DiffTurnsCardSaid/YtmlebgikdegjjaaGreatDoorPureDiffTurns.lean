/- DiffTurns' plain statement: a patch turned twice is itself, and the turned one is right just as it is. -/
import Derived.Test.YtmlebgikdegjjaaGreatDoorPp
import Derived.Test.YtmlebgikdegjjaaGreatDoorDi
namespace Go.Proofs.YtmlebgikdegjjaaGreatDoor.Pure
open Go.RowKit Go.Proofs.YtmlebgikdegjjaaGreatDoor.PAll Go.Proofs.YtmlebgikdegjjaaGreatDoorW.PrintWords Go.Proofs.YtmlebgikdegjjaaGreatDoorW.PrintLast
open Go.Proofs.YtmlebgikdegjjaaGreatDoor.Hd (turnP rightO Edk turns_great turns_go)
set_option linter.unusedVariables false
abbrev spS (s : ByteArray) : Bool:=(splitD s).2.2
theorem right_turn : ∀ (p : List SE) (o : Option ByteArray),rightO spS sideS smS o (turnP p) = rightO spS sideS smS o p
 | [],_=>rfl
 | x :: p,o=>by
  show (spS x.f0 && ((match o with | none=>true | some k=>Go.Proofs.YtmlebgikdegjjaaGreatDoor.Hd.ltK k x.f0) && (sideS x.f2 x.f0 && (sideS x.f1 x.f0 && (!Go.Proofs.YtmlebgikdegjjaaGreatDoor.Hd.alike smS x.f2 x.f1 && rightO spS sideS smS (some x.f0) (turnP p)))))) = (spS x.f0 && ((match o with | none=>true | some k=>Go.Proofs.YtmlebgikdegjjaaGreatDoor.Hd.ltK k x.f0) && (sideS x.f1 x.f0 && (sideS x.f2 x.f0 && (!Go.Proofs.YtmlebgikdegjjaaGreatDoor.Hd.alike smS x.f1 x.f2 && rightO spS sideS smS (some x.f0) p)))))
  rw [right_turn p,alike_symm x.f2 x.f1,Bool.and_left_comm (sideS x.f2 x.f0)]
theorem edk_ev {x : SE} (h : smallE x) : ∃ K,∀ k,K ≤ k → Edk k spS sideS smS x:=by
 obtain ⟨h0,⟨h1,h2⟩,h3,h4⟩:=h
 obtain ⟨K1,e1⟩:=ev_out (Split_val x.f0 (by omega))
 obtain ⟨K2,e2⟩:=ev_out (side_ev x.f1 x.f0 h2)
 obtain ⟨K3,e3⟩:=ev_out (side_ev x.f2 x.f0 h4)
 obtain ⟨K4,e4⟩:=all_ev2 (g:=fun (x y : SD) k=>def_Same.f k x.f0 x.f1 x.f2 x.f3 x.f4 x.f5 y.f0 y.f1 y.f2 y.f3 y.f4 y.f5) (v:=smS) x.f1 x.f2 (fun x hx y _=>same_ev (h2 x hx))
 exact ⟨K1 + K2 + K3 + K4,fun k hk=>⟨⟨_,_,e1 k (by omega)⟩,e2 k (by omega),e3 k (by omega),by omega,e4 k (by omega)⟩⟩
theorem edk_all : ∀ (l : List SE),(∀ x ∈ l,smallE x) → ∃ K,∀ k,K ≤ k → ∀ x ∈ l,Edk k spS sideS smS x
 | [],_=>⟨0,fun k _ d hd=>by cases hd⟩
 | x :: o,h=>by
  obtain ⟨Ka,ha⟩:=edk_all o fun d hd=>h d (List.mem_cons_of_mem _ hd)
  obtain ⟨Kb,hb⟩:=edk_ev (h x (List.mem_cons_self ..))
  refine ⟨Ka + Kb,fun k hk d hd=>?_⟩
  rcases List.mem_cons.1 hd with rfl | hd
  ·exact hb k (by omega)
  ·exact ha k (by omega) d hd
theorem smallE_lens {x : SE} (h : smallE x) : (x.f1.length ≤ 1000000 ∧ ∀ d ∈ x.f1,d.f3.length ≤ 1000000) ∧ x.f2.length ≤ 1000000 ∧ ∀ d ∈ x.f2,d.f3.length ≤ 1000000:=by
 obtain ⟨h0,⟨h1,h2⟩,h3,h4⟩:=h
 exact ⟨⟨by omega,fun d hd=>(key_lens (h2 d hd)).2⟩,by omega,fun d hd=>(key_lens (h4 d hd)).2⟩
theorem DiffTurns (A0 : Option Addr) (c0 : Nat) (l : List SE) (w : World) (hmx : Nm.MaxOk w) (hr0 : Kd.C k82 w A0 l.length l) (hc0 : l.length ≤ c0) :
  Calls Tryz.prog 4 #[.slice A0 l.length c0] w fun e w'=>e = .returned (.bool true) ∧ Below w.heap.size w w':=by
 obtain ⟨b,hb,hf⟩:=small09_tot l
 obtain ⟨K1,h1⟩:=ev_out hb
 cases b with
 | false=>exact turns_great K1 w hmx A0 c0 l hr0 hc0 (h1 _ (Nat.le_refl _))
 | true =>
  obtain ⟨hl,hs⟩:=hf rfl
  have hs' : ∀ x ∈ turnP l,smallE x:=fun x hx=>by
   obtain ⟨y,hy,rfl⟩:=List.mem_map.1 hx
   obtain ⟨a0,⟨a1,a2⟩,a3,a4⟩:=hs y hy
   exact ⟨a0,⟨a3,a4⟩,a1,a2⟩
  obtain ⟨K2,h2⟩:=edk_all l hs
  obtain ⟨K3,h3⟩:=edk_all (turnP l) hs'
  obtain ⟨K4,h4⟩:=ev_out (same09_self l (by omega) (fun x hx=>by
   obtain ⟨a0,⟨a1,a2⟩,a3,a4⟩:=hs x hx
   exact ⟨⟨by omega,a2⟩,by omega,a4⟩))
  exact turns_go spS sideS smS (K1 + K2 + K3 + K4) w hmx A0 c0 l hr0 hc0 (h1 _ (by omega)) (by omega) (fun x hx=>smallE_lens (hs x hx)) (h2 _ (by omega)) (h3 _ (by omega)) (h4 _ (by omega)) (right_turn l _).symm
end Go.Proofs.YtmlebgikdegjjaaGreatDoor.Pure
