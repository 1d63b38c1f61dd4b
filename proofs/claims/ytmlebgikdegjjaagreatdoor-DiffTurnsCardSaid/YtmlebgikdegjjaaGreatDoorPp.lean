/- Small plain laws of patches: whether they are small, their sides, whether two are the same. -/
import Derived.Test.YtmlebgikdegjjaaGreatDoorPAllx14
import Derived.Test.YtmlebgikdegjjaaGreatDoorPAllx16
import Derived.Test.YtmlebgikdegjjaaGreatDoorPAllx15
import Derived.Test.YtmlebgikdegjjaaGreatDoorPz
import Derived.Test.YtmlebgikdegjjaaGreatDoorSp
import Derived.Test.YtmlebgikdegjjaaGreatDoorDh
namespace Go.Proofs.YtmlebgikdegjjaaGreatDoor.PAll
open Go.RowKit Go.Proofs.YtmlebgikdegjjaaGreatDoorW.PrintWords Go.Proofs.YtmlebgikdegjjaaGreatDoorW.PrintLast
open Go.Proofs.YtmlebgikdegjjaaGreatDoor.Hd (alike alike_len alike_next alike_false alike_self turnP rightO ltK)
set_option linter.unusedVariables false
abbrev SE:=S82
theorem smS_eq (x y : SD) : smS x y = true ↔ x = y:=by
 constructor
 ·intro h
  unfold smS sameD at h
  simp only [Bool.and_eq_true,decide_eq_true_eq] at h
  obtain ⟨⟨⟨⟨⟨h1,h2⟩,h3⟩,h4⟩,h5⟩,h6⟩:=h
  obtain ⟨a1,a2,a3,a4,a5,a6⟩:=x
  obtain ⟨b1,b2,b3,b4,b5,b6⟩:=y
  dsimp only at h1 h2 h3 h4 h5 h6
  subst h1 h2 h3 h4 h5 h6
  rfl
 ·rintro rfl
  exact smS_self x
theorem alike_eq : ∀ (l m : List SD),alike smS l m = true ↔ l = m
 | [],[]=>⟨fun _=>rfl,fun _=>rfl⟩
 | [],_ :: _=>⟨fun h=>(by cases h),fun h=>(by cases h)⟩
 | _ :: _,[]=>⟨fun h=>(by cases h),fun h=>(by cases h)⟩
 | x :: l,y :: m=>by
  show (smS x y && alike smS l m) = true ↔ _
  rw [Bool.and_eq_true,smS_eq,alike_eq l m]
  exact ⟨fun h=>by rw [h.1,h.2],fun h=>by injection h with h1 h2;exact ⟨h1,h2⟩⟩
theorem alike_symm (l m : List SD) : alike smS l m = alike smS m l:=by
 rw [Bool.eq_iff_iff,alike_eq,alike_eq]
 exact ⟨Eq.symm,Eq.symm⟩
theorem SameAll_l0 (l m : List SD) (hl : l.length ≤ 1000000) (he : l.length = m.length) (hs : ∀ x ∈ l,smallB x = true) : ∀ (d i : Nat),l.length - i = d → i ≤ l.length → Ev (fun k=>r07_SameAll.l0 k l m (i : Int)) (alike smS (l.drop i) (m.drop i))
 | 0,i,hd,hi=>by
  refine Ev.step (f:=fun _=>some true) (fun k=>?_) ?_
  ·rw [r07_SameAll.l0,if_neg (by omega)]
  ·rw [List.drop_of_length_le (by omega),List.drop_of_length_le (by omega)]
   exact Ev.now _
 | d + 1,i,hd,hi=>by
  have hlt : i < l.length:=by omega
  have hltm : i < m.length:=by omega
  have ih:=SameAll_l0 l m hl he hs d (i + 1) (by omega) (by omega)
  have hv:=rsame_ev (x:=l[i]) (y:=m[i]) (hs _ (List.getElem_mem hlt))
  have hstep : ∀ k,r07_SameAll.l0 (k + 1) l m (i : Int) = (r07_Same.f k (l[i]).f0 (l[i]).f1 (l[i]).f2 (l[i]).f3 (l[i]).f4 (l[i]).f5 (m[i]).f0 (m[i]).f1 (m[i]).f2 (m[i]).f3 (m[i]).f4 (m[i]).f5).bind fun t=>(if t = true then (r07_SameAll.l0 k l m ((i + 1 : Nat) : Int)) else (some false)):=fun k=>by
   rw [r07_SameAll.l0,if_pos (by omega),if_pos (by omega),if_pos (by omega),rdDef l i hlt,rdDef m i hltm,w64 hlt hl]
  rw [List.drop_eq_getElem_cons hlt,List.drop_eq_getElem_cons hltm]
  show Ev _ (smS l[i] m[i] && alike smS (l.drop (i + 1)) (m.drop (i + 1)))
  cases h : smS l[i] m[i] with
  | true =>
   rw [h] at hv
   rw [Bool.true_and]
   exact Ev.step hstep (Ev.bind hv (Ev.congr (fun k=>if_pos rfl) ih))
  | false =>
   rw [h] at hv
   rw [Bool.false_and]
   exact Ev.step hstep (Ev.bind hv (Ev.congr (f:=fun _=>some false) (fun k=>if_neg (by decide)) (Ev.now _)))
theorem SameAll_ev (l m : List SD) (hl : l.length ≤ 1000000) (hs : ∀ x ∈ l,smallB x = true) : Ev (fun k=>r07_SameAll.f k l m) (alike smS l m):=by
 by_cases he : l.length = m.length
 ·have h:=SameAll_l0 l m hl he hs _ 0 rfl (Nat.zero_le _)
  rw [List.drop_zero,List.drop_zero] at h
  exact Ev.congr (fun k=>by unfold r07_SameAll.f;rw [if_pos (by omega)];rfl) h
 ·rw [alike_len smS l m he]
  exact Ev.congr (f:=fun _=>some false) (fun k=>by unfold r07_SameAll.f;rw [if_neg (by omega)]) (Ev.now _)
def sideS (l : List SD) (key : ByteArray) : Bool:=match l with
 | []=>true
 | [d]=>decide (keyS d = key)
 | _=>false
theorem rd0 (d : SD) : rd_T34 [d] 0 = d:=rfl
theorem side_ev (l : List SD) (key : ByteArray) (hs : ∀ x ∈ l,smallB x = true) : Ev (fun k=>diff_side.f k l key) (sideS l key):=by
 rcases l with _ | ⟨d,_ | ⟨d2,l⟩⟩
 ·exact Ev.congr (f:=fun _=>some true) (fun k=>by unfold diff_side.f;rw [if_pos (show (([] : List SD).length : Int) = 0 from rfl)]) (Ev.now _)
 ·obtain ⟨K,h⟩:=ev_out (key_ev (hs d (List.mem_cons_self ..)))
  refine ev_mk K (fun k hk=>?_)
  unfold diff_side.f
  rw [if_neg (show ¬ ((([d] : List SD).length : Int) = 0) by show ¬ ((1 : Int) = 0);decide),if_pos (show (([d] : List SD).length : Int) = 1 from rfl),if_pos (show 0 < (([d] : List SD).length : Int) by show (0 : Int) < 1;decide),rd0,h k hk,Option.bind_some,beq_text]
  rfl
 ·exact Ev.congr (f:=fun _=>some false) (fun k=>by unfold diff_side.f;rw [if_neg (by simp only [List.length_cons];omega),if_neg (by simp only [List.length_cons];omega)]) (Ev.now _)
def smallE (x : SE) : Prop:=x.f0.size ≤ 700 ∧ (x.f1.length ≤ 3 ∧ ∀ d ∈ x.f1,smallB d = true) ∧ x.f2.length ≤ 3 ∧ ∀ d ∈ x.f2,smallB d = true
theorem rdEdit (l : List SE) (i : Nat) (hi : i < l.length) : rd_T82 l (i : Int) = l[i]:=by
 unfold rd_T82
 rw [Int.toNat_natCast,List.getD_eq_getElem?_getD,List.getElem?_eq_getElem hi]
 rfl
theorem small09_tot (l : List SE) : ∃ b,Ev (fun k=>r09_Small.f k l) b ∧ (b = true → l.length ≤ 12 ∧ ∀ x ∈ l,smallE x):=by
 by_cases hl : l.length ≤ 12
 ·obtain ⟨b,hb,hP⟩:=all_tot l (fun k i=>r09_Small.l0 k l i) smallE
   (Ev.step (f:=fun _=>some true) (fun k=>by rw [r09_Small.l0,if_neg (by omega)]) (Ev.now _))
   (fun i hi=>by
    obtain ⟨b1,hb1,hf1⟩:=few07_tot (l[i]).f1 3 (by decide)
    obtain ⟨b2,hb2,hf2⟩:=few07_tot (l[i]).f2 3 (by decide)
    by_cases hz : (l[i]).f0.size ≤ 700
    ·have hstep : ∀ k,r09_Small.l0 (k + 1) l (i : Int) = (r07_Few.f k (l[i]).f1 3).bind fun t=>(if t = true then ((r07_Few.f k (l[i]).f2 3).bind fun t2=>(if t2 = true then (r09_Small.l0 k l ((i + 1 : Nat) : Int)) else (some false))) else (some false)):=fun k=>by
      rw [r09_Small.l0,if_pos (by omega),if_pos (by omega),rdEdit l i hi,if_neg (by omega),w64 hi (by omega)]
     cases b1 with
     | false=>exact Or.inr (Ev.step hstep (Ev.bind hb1 (Ev.congr (f:=fun _=>some false) (fun k=>if_neg (by decide)) (Ev.now _))))
     | true =>
      cases b2 with
      | false=>exact Or.inr (Ev.step hstep (Ev.bind hb1 (Ev.congr (fun k=>if_pos rfl) (Ev.bind hb2 (Ev.congr (f:=fun _=>some false) (fun k=>if_neg (by decide)) (Ev.now _))))))
      | true=>exact Or.inl ⟨⟨hz,hf1 rfl,hf2 rfl⟩,fun r hr=>Ev.step hstep (Ev.bind hb1 (Ev.congr (fun k=>if_pos rfl) (Ev.bind hb2 (Ev.congr (fun k=>if_pos rfl) hr))))⟩
    ·exact Or.inr (Ev.step (f:=fun _=>some false) (fun k=>by rw [r09_Small.l0,if_pos (by omega),if_pos (by omega),rdEdit l i hi,if_pos (by omega)]) (Ev.now _)))
  exact ⟨b,Ev.congr (fun k=>by unfold r09_Small.f;rw [if_neg (by omega)]) hb,fun e=>⟨hl,hP e⟩⟩
 ·exact ⟨false,Ev.congr (f:=fun _=>some false) (fun k=>by unfold r09_Small.f;rw [if_pos (by omega)]) (Ev.now _),fun e=>by cases e⟩
theorem same09_l0 (l : List SE) (hl : l.length ≤ 1000000) (hs : ∀ x ∈ l,(x.f1.length ≤ 1000000 ∧ ∀ d ∈ x.f1,smallB d = true) ∧ x.f2.length ≤ 1000000 ∧ ∀ d ∈ x.f2,smallB d = true) : ∀ (d i : Nat),l.length - i = d → i ≤ l.length → Ev (fun k=>r09_Same.l0 k l l (i : Int)) true
 | 0,i,hd,hi=>Ev.step (f:=fun _=>some true) (fun k=>by rw [r09_Same.l0,if_neg (by omega)]) (Ev.now _)
 | d + 1,i,hd,hi=>by
  have hlt : i < l.length:=by omega
  have ih:=same09_l0 l hl hs d (i + 1) (by omega) (by omega)
  obtain ⟨⟨h1,h2⟩,h3,h4⟩:=hs _ (List.getElem_mem hlt)
  have e1:=SameAll_ev (l[i]).f1 (l[i]).f1 h1 h2
  have e2:=SameAll_ev (l[i]).f2 (l[i]).f2 h3 h4
  rw [(alike_eq _ _).2 rfl] at e1 e2
  have hstep : ∀ k,r09_Same.l0 (k + 1) l l (i : Int) = (r07_SameAll.f k (l[i]).f1 (l[i]).f1).bind fun t=>(if t = true then ((r07_SameAll.f k (l[i]).f2 (l[i]).f2).bind fun t2=>(if t2 = true then (r09_Same.l0 k l l ((i + 1 : Nat) : Int)) else (some false))) else (some false)):=fun k=>by
   rw [r09_Same.l0,if_pos (by omega),if_pos (by omega),if_pos (by omega),if_pos rfl,rdEdit l i hlt,w64 hlt hl]
  exact Ev.step hstep (Ev.bind e1 (Ev.congr (fun k=>if_pos rfl) (Ev.bind e2 (Ev.congr (fun k=>if_pos rfl) ih))))
theorem same09_self (l : List SE) (hl : l.length ≤ 1000000) (hs : ∀ x ∈ l,(x.f1.length ≤ 1000000 ∧ ∀ d ∈ x.f1,smallB d = true) ∧ x.f2.length ≤ 1000000 ∧ ∀ d ∈ x.f2,smallB d = true) : Ev (fun k=>r09_Same.f k l l) true :=
 Ev.congr (fun k=>by unfold r09_Same.f;rw [if_pos rfl];rfl) (same09_l0 l hl hs _ 0 rfl (Nat.zero_le _))
end Go.Proofs.YtmlebgikdegjjaaGreatDoor.PAll
