/- Are definitions few and small? -/
import Derived.Test.YtmlebgikdegjjaaGreatDoorPAllx3
import Derived.Test.YtmlebgikdegjjaaGreatDoorPs
namespace Go.Proofs.YtmlebgikdegjjaaGreatDoor.PAll
open Go.RowKit Go.Proofs.YtmlebgikdegjjaaGreatDoorW.PrintWords Go.Proofs.YtmlebgikdegjjaaGreatDoorW.PrintLast
set_option linter.unusedVariables false
theorem all_tot {α : Type} (l : List α) (g : Nat → Int → Option Bool) (P : α → Prop) (h0 : Ev (fun k=>g k (l.length : Int)) true)
  (hs : ∀ i (hi : i < l.length),(P l[i] ∧ ∀ r,Ev (fun k=>g k ((i + 1 : Nat) : Int)) r → Ev (fun k=>g k (i : Int)) r) ∨ Ev (fun k=>g k (i : Int)) false) :
  ∃ b,Ev (fun k=>g k 0) b ∧ (b = true → ∀ x ∈ l,P x):=by
 have main : ∀ (d i : Nat),l.length - i = d → i ≤ l.length → ∃ b,Ev (fun k=>g k (i : Int)) b ∧ (b = true → ∀ x ∈ l.drop i,P x):=by
  intro d
  induction d with
  | zero =>
   intro i hd hi
   obtain rfl : i = l.length:=by omega
   exact ⟨true,h0,fun _ x hx=>by rw [List.drop_length] at hx;cases hx⟩
  | succ d ih =>
   intro i hd hi
   have hlt : i < l.length:=by omega
   rcases hs i hlt with ⟨hp,hn⟩ | hf
   ·obtain ⟨b,hb,hP⟩:=ih (i + 1) (by omega) (by omega)
    refine ⟨b,hn b hb,fun e x hx=>?_⟩
    rw [List.drop_eq_getElem_cons hlt] at hx
    rcases List.mem_cons.1 hx with rfl | hx
    ·exact hp
    ·exact hP e x hx
   ·exact ⟨false,hf,fun e=>by cases e⟩
 obtain ⟨b,hb,hP⟩:=main l.length 0 (by omega) (Nat.zero_le _)
 exact ⟨b,hb,fun e x hx=>hP e x (by rw [List.drop_zero];exact hx)⟩
theorem w64 {i n : Nat} (hi : i < n) (hn : n ≤ 1000000) : wrap64 ((i : Int) + 1) = ((i + 1 : Nat) : Int):=by rw [IntWalk.wrap64_in _ (by omega)];omega
theorem rdDef (l : List S34) (i : Nat) (hi : i < l.length) : rd_T34 l (i : Int) = l[i]:=by
 unfold rd_T34
 rw [Int.toNat_natCast,List.getD_eq_getElem?_getD,List.getElem?_eq_getElem hi]
 rfl
theorem few07_tot (l : List S34) (m : Nat) (hm : m ≤ 100) : ∃ b,Ev (fun k=>r07_Few.f k l (m : Int)) b ∧ (b = true → l.length ≤ m ∧ ∀ x ∈ l,smallD x.f0 x.f1 x.f2 x.f3 x.f4 x.f5 = true):=by
 by_cases hl : l.length ≤ m
 ·obtain ⟨b,hb,hP⟩:=all_tot l (fun k i=>r07_Few.l0 k l i) (fun x=>smallD x.f0 x.f1 x.f2 x.f3 x.f4 x.f5 = true)
   (Ev.step (f:=fun _=>some true) (fun k=>by rw [r07_Few.l0,if_neg (by omega)]) (Ev.now _))
   (fun i hi=>by
    have hv:=Small_val (l[i]).f0 (l[i]).f1 (l[i]).f2 (l[i]).f3 (l[i]).f4 (l[i]).f5
    have hstep : ∀ k,r07_Few.l0 (k + 1) l (i : Int) = (r07_Small.f k (l[i]).f0 (l[i]).f1 (l[i]).f2 (l[i]).f3 (l[i]).f4 (l[i]).f5).bind fun t182=>(if t182 = true then (r07_Few.l0 k l ((i + 1 : Nat) : Int)) else (some false)):=fun k=>by
     rw [r07_Few.l0,if_pos (by omega),if_pos (by omega),rdDef l i hi,w64 hi (by omega)]
    cases h : smallD (l[i]).f0 (l[i]).f1 (l[i]).f2 (l[i]).f3 (l[i]).f4 (l[i]).f5 with
    | true =>
     rw [h] at hv
     exact Or.inl ⟨rfl,fun r hr=>Ev.step hstep (Ev.bind hv (Ev.congr (fun k=>if_pos rfl) hr))⟩
    | false =>
     rw [h] at hv
     exact Or.inr (Ev.step hstep (Ev.bind hv (Ev.congr (f:=fun _=>some false) (fun k=>if_neg (by decide)) (Ev.now _)))))
  exact ⟨b,Ev.congr (fun k=>by unfold r07_Few.f;rw [if_neg (by omega)]) hb,fun e=>⟨hl,hP e⟩⟩
 ·exact ⟨false,Ev.congr (f:=fun _=>some false) (fun k=>by unfold r07_Few.f;rw [if_pos (by omega)]) (Ev.now _),fun e=>by cases e⟩
end Go.Proofs.YtmlebgikdegjjaaGreatDoor.PAll
