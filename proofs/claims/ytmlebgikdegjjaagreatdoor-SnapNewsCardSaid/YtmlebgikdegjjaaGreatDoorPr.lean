/- What the reference's Find, Put, Drop and New of chapter 08 come to. -/
import Derived.Test.YtmlebgikdegjjaaGreatDoorPAllx7
import Derived.Test.YtmlebgikdegjjaaGreatDoorPAllx8
import Derived.Test.YtmlebgikdegjjaaGreatDoorPt
import Derived.Test.YtmlebgikdegjjaaGreatDoorUg
namespace Go.Proofs.YtmlebgikdegjjaaGreatDoor.PAll
open Go.RowKit Go.Proofs.YtmlebgikdegjjaaGreatDoorW.PrintWords Go.Proofs.YtmlebgikdegjjaaGreatDoorW.PrintLast
open Go.Proofs.YtmlebgikdegjjaaGreatDoor.Hd (putL dropL hasL newL putL_mem putL_len ltK ltK_less)
set_option linter.unusedVariables false
section
variable {key : S34 → ByteArray}
def KeyEv (key : S34 → ByteArray) (x : S34) : Prop:=Ev (fun k=>r07_Key.f k x.f0 x.f1 x.f2 x.f3 x.f4 x.f5) (key x)
theorem Find_l0 (l : List S34) (s : ByteArray) (hl : l.length ≤ 1000000) (hk : ∀ x ∈ l,KeyEv key x) : ∀ (d i : Nat),l.length - i = d → i ≤ l.length →
  ∃ r : Int,Ev (fun k=>r08_Find.l0 k l s (i : Int)) r ∧ (decide (0 ≤ r) = hasL key s (l.drop i)) ∧ (0 ≤ r → ∃ j : Nat,∃ h : j < l.length,r = (j : Int) ∧ key l[j] = s):=by
 intro d
 induction d with
 | zero =>
  intro i hd hi
  obtain rfl : i = l.length:=by omega
  refine ⟨-1,Ev.step (f:=fun _=>some (-1)) (fun k=>by rw [r08_Find.l0,if_neg (by omega)]) (Ev.now _),?_,fun h=>by omega⟩
  rw [List.drop_length]
  rfl
 | succ d ih =>
  intro i hd hi
  have hlt : i < l.length:=by omega
  have hstep : ∀ k,r08_Find.l0 (k + 1) l s (i : Int) = (r07_Key.f k (l[i]).f0 (l[i]).f1 (l[i]).f2 (l[i]).f3 (l[i]).f4 (l[i]).f5).bind fun t=>(if t.toList = s.toList then (some (i : Int)) else (r08_Find.l0 k l s ((i + 1 : Nat) : Int))):=fun k=>by
   rw [r08_Find.l0,if_pos (by omega),if_pos (by omega),rdDef l i hlt,w64 hlt hl]
  have hdr : hasL key s (l.drop i) = (decide (key l[i] = s) || hasL key s (l.drop (i + 1))):=by
   rw [List.drop_eq_getElem_cons hlt]
   rfl
  by_cases e : key l[i] = s
  ·refine ⟨(i : Int),Ev.step hstep (Ev.bind (hk _ (List.getElem_mem hlt)) (Ev.congr (f:=fun _=>some (i : Int)) (fun k=>if_pos (by rw [e])) (Ev.now _))),?_,fun _=>⟨i,hlt,rfl,e⟩⟩
   rw [hdr,decide_eq_true e,decide_eq_true (by omega),Bool.true_or]
  ·obtain ⟨r,h1,h2,h3⟩:=ih (i + 1) (by omega) (by omega)
   refine ⟨r,Ev.step hstep (Ev.bind (hk _ (List.getElem_mem hlt)) (Ev.congr (fun k=>if_neg (fun h=>e ((toList_eq _ _).1 h))) h1)),?_,h3⟩
   rw [hdr,decide_eq_false e,Bool.false_or]
   exact h2
theorem Find_val (l : List S34) (s : ByteArray) (hl : l.length ≤ 1000000) (hk : ∀ x ∈ l,KeyEv key x) : ∃ r : Int,Ev (fun k=>r08_Find.f k l s) r ∧ (decide (0 ≤ r) = hasL key s l) ∧ (0 ≤ r → ∃ j : Nat,∃ h : j < l.length,r = (j : Int) ∧ key l[j] = s):=by
 obtain ⟨r,h1,h2,h3⟩:=Find_l0 l s hl hk _ 0 rfl (Nat.zero_le _)
 exact ⟨r,h1,h2,h3⟩
theorem Put_l0 (l : List S34) (d : S34) (hl : l.length ≤ 1000000) (hk : ∀ x ∈ l,KeyEv key x) : ∀ (n i : Nat),l.length - i = n → i ≤ l.length → ∀ (out : List S34) (dn : Bool),out.length + 2 * n ≤ 1000000000 →
  Ev (fun k=>r08_Put.l0 k l (key d) out dn (i : Int) d.f0 d.f1 d.f2 d.f3 d.f4 d.f5) (out ++ putL key d (l.drop i) dn):=by
 intro n
 induction n with
 | zero =>
  intro i hd hi out dn ho
  obtain rfl : i = l.length:=by omega
  rw [List.drop_length]
  cases dn with
  | true =>
   rw [show putL key d [] true = [] from rfl,List.append_nil]
   exact Ev.step (f:=fun _=>some out) (fun k=>by rw [r08_Put.l0,if_neg (by omega),if_pos rfl]) (Ev.now _)
  | false=>exact Ev.step (f:=fun _=>some (out ++ [d])) (fun k=>by rw [r08_Put.l0,if_neg (by omega),if_neg (by decide),if_pos (by omega)]) (Ev.now _)
 | succ n ih =>
  intro i hd hi out dn ho
  have hlt : i < l.length:=by omega
  rw [List.drop_eq_getElem_cons hlt]
  have hstep : ∀ k,r08_Put.l0 (k + 1) l (key d) out dn (i : Int) d.f0 d.f1 d.f2 d.f3 d.f4 d.f5 = (r07_Key.f k (l[i]).f0 (l[i]).f1 (l[i]).f2 (l[i]).f3 (l[i]).f4 (l[i]).f5).bind fun t=>r08_Put.j1 k l (key d) out dn (i : Int) t (if dn = true then false else !(Op.bytesLess t.toList (key d).toList)) d.f0 d.f1 d.f2 d.f3 d.f4 d.f5:=fun k=>by
   rw [r08_Put.l0,if_pos (by omega),if_pos (by omega),rdDef l i hlt]
   cases dn <;> rfl
  refine Ev.step hstep (Ev.bind (hk _ (List.getElem_mem hlt)) ?_)
  have hb : (if dn = true then false else !(Op.bytesLess (key l[i]).toList (key d).toList)) = (!dn && !(ltK (key l[i]) (key d))):=by
   rw [ltK_less]
   cases dn <;> rfl
  rw [hb]
  unfold putL
  cases hz : (!dn && !(ltK (key l[i]) (key d))) with
  | true =>
   have hdn : (dn || !(ltK (key l[i]) (key d))) = true:=by
    rcases Bool.and_eq_true_iff.1 hz with ⟨_,h⟩
    rw [h,Bool.or_true]
   rw [if_pos rfl,hdn]
   by_cases e : key l[i] = key d
   ·rw [if_pos e]
    have:=ih (i + 1) (by omega) (by omega) (out ++ [d]) true (by rw [List.length_append,List.length_singleton];omega)
    rw [List.append_assoc] at this
    refine Ev.step (fun k=>?_) this
    rw [r08_Put.j1,if_pos rfl,if_pos (by omega),Option.bind_some,if_pos (by rw [e]),w64 hlt hl]
   ·rw [if_neg e]
    have:=ih (i + 1) (by omega) (by omega) (out ++ [d] ++ [l[i]]) true (by rw [List.length_append,List.length_append,List.length_singleton,List.length_singleton];omega)
    rw [List.append_assoc,List.append_assoc] at this
    refine Ev.step (fun k=>?_) this
    rw [r08_Put.j1,if_pos rfl,if_pos (by omega),Option.bind_some,if_neg (fun h=>e ((toList_eq _ _).1 h)),if_pos (by omega),if_pos (by omega),if_pos (by rw [List.length_append,List.length_singleton];omega),w64 hlt hl,rdDef l i hlt,List.append_assoc]
  | false =>
   have hdn : (dn || !(ltK (key l[i]) (key d))) = dn:=by
    cases dn with
    | true=>rfl
    | false=>exact hz
   rw [if_neg (by decide),hdn,List.nil_append]
   by_cases e : key l[i] = key d
   ·rw [if_pos e,List.nil_append]
    refine Ev.step (fun k=>?_) (ih (i + 1) (by omega) (by omega) out dn (by omega))
    rw [r08_Put.j1,if_neg (by decide),if_pos (by rw [e]),w64 hlt hl]
   ·rw [if_neg e]
    have:=ih (i + 1) (by omega) (by omega) (out ++ [l[i]]) dn (by rw [List.length_append,List.length_singleton];omega)
    rw [List.append_assoc] at this
    refine Ev.step (fun k=>?_) this
    rw [r08_Put.j1,if_neg (by decide),if_neg (fun h=>e ((toList_eq _ _).1 h)),if_pos (by omega),if_pos (by omega),if_pos (by omega),w64 hlt hl,rdDef l i hlt]
theorem Put_val (l : List S34) (d : S34) (hl : l.length ≤ 1000000) (hk : ∀ x ∈ l,KeyEv key x) (hd : KeyEv key d) : Ev (fun k=>r08_Put.f k l d.f0 d.f1 d.f2 d.f3 d.f4 d.f5) (putL key d l false):=by
 have:=Put_l0 l d hl hk _ 0 rfl (Nat.zero_le _) [] false (by show 0 + _ ≤ _;omega)
 exact Ev.bind hd this
theorem New_l0 (l : List S34) (hl : l.length ≤ 400) (hk : ∀ x ∈ l,KeyEv key x) : ∀ (n i : Nat),l.length - i = n → i ≤ l.length → ∀ (out : List S34),out.length ≤ i → (∀ x ∈ out,x ∈ l) →
  Ev (fun k=>r08_New.l0 k l out (i : Int)) (newL key (l.drop i) out):=by
 intro n
 induction n with
 | zero =>
  intro i hd hi out ho hm
  obtain rfl : i = l.length:=by omega
  rw [List.drop_length]
  exact Ev.step (f:=fun _=>some (out,0)) (fun k=>by rw [r08_New.l0,if_neg (by omega)]) (Ev.now _)
 | succ n ih =>
  intro i hd hi out ho hm
  have hlt : i < l.length:=by omega
  rw [List.drop_eq_getElem_cons hlt]
  have hstep : ∀ k,r08_New.l0 (k + 1) l out (i : Int) = (r07_Key.f k (l[i]).f0 (l[i]).f1 (l[i]).f2 (l[i]).f3 (l[i]).f4 (l[i]).f5).bind fun t222=>(if t222.toList = ([] : List UInt8) then (some (([] : List (S34)),31)) else ((r08_Find.f k out t222).bind fun t223=>(if t223 ≥ 0 then (some (([] : List (S34)),45)) else (if (out.length : Int) = 500 then (some (([] : List (S34)),21)) else ((r08_Put.f k out (l[i]).f0 (l[i]).f1 (l[i]).f2 (l[i]).f3 (l[i]).f4 (l[i]).f5).bind fun t225=>(r08_New.l0 k l t225 ((i + 1 : Nat) : Int))))))):=fun k=>by
   rw [r08_New.l0,if_pos (by omega),if_pos (by omega),rdDef l i hlt,w64 hlt (by omega)]
  have hki:=hk _ (List.getElem_mem hlt)
  refine Ev.step hstep (Ev.bind hki ?_)
  unfold newL
  by_cases h0 : (key l[i]).size = 0
  ·rw [if_pos h0]
   exact Ev.congr (f:=fun _=>some ([],31)) (fun k=>if_pos ((toList_nil _).2 (Go.Proofs.YtmlebgikdegjjaaGreatDoor.Hd.empty_ h0))) (Ev.now _)
  ·rw [if_neg h0]
   refine Ev.congr (fun k=>if_neg (fun h=>h0 (by rw [(toList_nil _).1 h];rfl))) ?_
   have h5 : ¬ ((out.length : Int) = 500):=by omega
   obtain ⟨r,h1,h2,h3⟩:=Find_val (key:=key) out (key l[i]) (by omega) (fun x hx=>hk x (hm x hx))
   clear h3
   refine Ev.bind h1 ?_
   rw [← h2]
   by_cases hr : 0 ≤ r
   ·rw [if_pos (decide_eq_true hr)]
    exact Ev.congr (f:=fun _=>some ([],45)) (fun k=>if_pos hr) (Ev.now _)
   ·rw [if_neg (by rw [decide_eq_false hr];decide)]
    refine Ev.congr (fun k=>by rw [if_neg hr,if_neg h5]) (Ev.bind (Put_val (key:=key) out l[i] (by omega) (fun x hx=>hk x (hm x hx)) hki) ?_)
    have hpl:=putL_len (key:=key) l[i] out false
    rw [if_neg (by decide)] at hpl
    exact ih (i + 1) (by omega) (by omega) _ (by omega) (fun x hx=>by
     rcases putL_mem _ hx with rfl | hx
     ·exact List.getElem_mem hlt
     ·exact hm x hx)
theorem New_val (l : List S34) (hl : l.length ≤ 400) (hk : ∀ x ∈ l,KeyEv key x) : Ev (fun k=>r08_New.f k l) (newL key l []) :=
 New_l0 l hl hk _ 0 rfl (Nat.zero_le _) [] (Nat.le_refl _) (fun x hx=>by cases hx)
end
end Go.Proofs.YtmlebgikdegjjaaGreatDoor.PAll
