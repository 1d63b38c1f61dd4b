/- Snap.All: what its iterator gives. -/
import Derived.Test.YtmlebgikdegjjaaGreatDoorSc
import Derived.Test.YtmlebgikdegjjaaGreatDoorRq
namespace Go.Proofs.YtmlebgikdegjjaaGreatDoor.Hd
open Go.Maps Go.RowKit Go.Proofs.YtmlebgikdegjjaaGreatDoor.Rq Go.Proofs.YtmlebgikdegjjaaGreatDoorW.PrintWords Go.Proofs.YtmlebgikdegjjaaGreatDoorW.PrintLast Go.Proofs.YtmlebgikdegjjaaGreatDoorW.PrintMore Go.Proofs.YtmlebgikdegjjaaGreatDoor.PAll
attribute [local go_sem] max2_int min2_int max_two min_two max_three min_three max_four min_four
set_option linter.unusedVariables false
set_option linter.unusedSimpArgs false
attribute [local go_sem] Oper.semAt_some
def keepV : Value → Bool
 | .string _ | .map _ | .pointer _=>true
 | _=>false
/-- What a round keeps: the cells that hold texts,maps,pointers;the maps but its own. -/
structure KpR (XM : Nat → Prop) (W W' : World) : Prop where
 size : W.heap.size ≤ W'.heap.size
 cell : ∀ a v,W.cell? a = some v → keepV v = true → W'.cell? a = some v
 map : ∀ k es c,W.heap[k]? = some (.map es c) → ¬ XM k → W'.heap[k]? = some (.map es c)
theorem KpR.trans {XM : Nat → Prop} {a b c : World} (h : KpR XM a b) (k : KpR XM b c) : KpR XM a c:=⟨Nat.le_trans h.size k.size,fun x v hx hv=>k.cell x v (h.cell x v hx hv) hv,fun i es c hi hx=>k.map i es c (h.map i es c hi hx) hx⟩
theorem KpR.book {XM : Nat → Prop} (W : World) (l : Nat) (o o' : Obj) (h : W.heap[l]? = some o) (hc : o.isCells = false) (hw : o.isWalk = false) : KpR XM W (W.putObj l o'):=by
 refine ⟨by simp,fun a v ha _=>?_,fun k es c hk _=>?_⟩
 ·have hne : a.block ≠ l:=fun e=>by
   unfold World.cell? at ha
   rw [e,h] at ha
   cases o <;> first | cases ha | cases hc
  unfold World.cell? at ha ⊢
  rw [World.putObj_heap_other hne]
  exact ha
 ·have hne : k ≠ l:=fun e=>by
   rw [e,h] at hk
   cases hk
   cases hw
  exact (World.putObj_heap_other hne).trans hk
theorem KpR.below {XM : Nat → Prop} {W W' : World} (h : Below W.heap.size W W') : KpR XM W W':=⟨h.size,fun a v ha _=>pC h ha,fun k es c hk _=>(h.block k (Array.getElem?_eq_some_iff.1 hk).1).trans hk⟩
theorem C_kp {XM : Nat → Prop} {w w' : World} {A : Option Addr} {n : Nat} {l : List ByteArray} (h : Kd.string.C w A n l) (hk : KpR XM w w') : Kd.string.C w' A n l :=
 ⟨h.1,h.2.1,fun hn=>by
  obtain ⟨ad,e,hc⟩:=h.2.2 hn
  refine ⟨ad,e,fun j p hj=>?_⟩
  obtain ⟨c,hs,hr,hcell⟩:=hc j p hj
  refine ⟨c,hs,hr,fun i u hu=>hk.cell _ _ (hcell i u hu) ?_⟩
  have hr' : c = [.string p]:=hr
  rw [hr'] at hu
  cases i with
  | zero=>cases hu;rfl
  | succ i=>cases hu⟩
theorem Dv.kp {XM : Nat → Prop} {w w' : World} {d : S34} {v : Value} (h : Dv w d v) (hk : KpR XM w w') : Dv w' d v:=by
 obtain ⟨A,c,e,hl,hc⟩:=h
 exact ⟨A,c,e,hl,C_kp hc hk⟩
theorem MapD.kp {XM : Nat → Prop} {w w' : World} {b : Nat} {M : DataW S34} (h : MapD w b M) (hk : KpR XM w w') (hb : ¬ XM b) : MapD w' b M:=by
 obtain ⟨D,⟨es,clock,h1,h2⟩,es',ms,e1,e2,hr⟩:=h
 exact ⟨D,⟨es,clock,hk.map b es clock h1 hb,h2⟩,es',ms,e1,e2,hr.imp (fun e m he=>by
  obtain ⟨h1,v,d,h2,h3,h4⟩:=he
  exact ⟨h1,v,d,h2,h3,h4.kp hk⟩)⟩
theorem All_calls (w : World) (p : Option Addr) : Calls Tryz.prog 64 #[.pointer p] w fun e w'=>e = .returned (.func (.func 105) #[] #[.pointer (some ⟨w.heap.size,0,none⟩)]) ∧ w' = w.alloc (.cells #[.pointer p] 26):=by
 go_enter Tryz.func64,Tryz.ntmps64
 go_wp2
 go_ret
 exact ⟨rfl,rfl⟩
abbrev El:=S34 × Option Addr × Nat
def encE (x : El) : Array Value:=#[.agg #[.int .i64 x.1.f0,.string x.1.f1,.string x.1.f2,.slice x.2.1 x.1.f3.length x.2.2,.string x.1.f4,.string x.1.f5]]
def Qe (Pd : S34 → Prop) (x : El) (W : World) : Prop:=Pd x.1 ∧ x.1.f3.length ≤ x.2.2 ∧ Kd.string.C W x.2.1 x.1.f3.length x.1.f3
end Go.Proofs.YtmlebgikdegjjaaGreatDoor.Hd
