/- Patches between small snapshots: they are right, fit, and lead there. -/
import Derived.Test.YtmlebgikdegjjaaGreatDoorPAllx20
import Derived.Test.YtmlebgikdegjjaaGreatDoorPp
import Derived.Test.YtmlebgikdegjjaaGreatDoorDn
import Derived.Test.YtmlebgikdegjjaaGreatDoorDq
import Derived.Test.YtmlebgikdegjjaaGreatDoorUx
namespace Go.Proofs.YtmlebgikdegjjaaGreatDoor.PAll
open Go.RowKit Go.Proofs.YtmlebgikdegjjaaGreatDoorW.PrintWords Go.Proofs.YtmlebgikdegjjaaGreatDoorW.PrintLast
open Go.Proofs.YtmlebgikdegjjaaGreatDoor.Hd (getL getL_sub getL_len getM_mapK Bet bet_right bet_fits bet_apply of_bet ofG insAll insAll_len ofG_len Edk POk Ris mapK getM fitsB rightO applyL mem_getL equalM eqS entK atKey_find same_KL KL has_mapK newL newL_apart newL_mem newL_len)
set_option linter.unusedVariables false
abbrev spS (s : ByteArray) : Bool:=(splitD s).2.2
theorem keys_l0 (p : List SE) (hp : p.length ≤ 1000000) : ∀ (d i : Nat),p.length - i = d → i ≤ p.length → Ev (fun k=>diff_Keys.l0 k ((p.take i).map (·.f0)) p (p.length : Int) (i : Int)) (p.map (·.f0))
 | 0,i,hd,hi=>by
  refine Ev.step (f:=fun _=>some (p.map (·.f0))) (fun k=>?_) (Ev.now _)
  rw [diff_Keys.l0,if_neg (by omega),List.take_of_length_le (by omega)]
 | d + 1,i,hd,hi=>by
  have hlt : i < p.length:=by omega
  refine Ev.step (fun k=>?_) (keys_l0 p hp d (i + 1) (by omega) (by omega))
  rw [diff_Keys.l0,if_pos (by omega),if_pos (by omega),if_pos (by omega),if_pos (by rw [List.length_map,List.length_take];omega),rdEdit p i hlt,w64 hlt hp,List.take_add_one,List.getElem?_eq_getElem hlt,List.map_append]
  rfl
theorem keys_ev (p : List SE) (hp : p.length ≤ 1000000) : Ev (fun k=>diff_Keys.f k p) (p.map (·.f0)):=keys_l0 p hp _ 0 rfl (Nat.zero_le _)
theorem sp_key {d : SD} (h : rightB d = true) : spS (keyS d) = true:=by
 unfold spS keyS
 rw [key_split h]
theorem side_one (l : List SD) (k : ByteArray) (hl : l.length ≤ 1) (h : ∀ d ∈ l,keyS d = k) : sideS l k = true:=by
 rcases l with _ | ⟨d,_ | ⟨d2,l⟩⟩
 ·rfl
 ·exact decide_eq_true (h d (List.mem_cons_self ..))
 ·simp only [List.length_cons] at hl
  omega
def patS (a b : List SD) : List SE:=ofG smS (mapK keyS a) (mapK keyS b) (insAll keyS b (insAll keyS a []))
theorem pat_bet (a b : List SD) : Bet keyS a b (patS a b):=of_bet smS alike_eq a b
theorem pat_len (a b : List SD) : (patS a b).length ≤ a.length + b.length:=by
 have h1:=ofG_len smS (mapK keyS a) (mapK keyS b) (insAll keyS b (insAll keyS a []))
 have h2:=insAll_len keyS b (insAll keyS a [])
 have h3:=insAll_len keyS a []
 rw [List.length_nil] at h3
 unfold patS
 omega
theorem bet_key {a b : List SD} {p : List SE} (h : Bet keyS a b p) {x : SE} (hx : x ∈ p) : ∃ d,(d ∈ a ∨ d ∈ b) ∧ x.f0 = keyS d:=by
 obtain ⟨h1,h2,h3⟩:=(h.2 x).1 hx
 by_cases ha : getL keyS a x.f0 = []
 ·cases hb : getL keyS b x.f0 with
  | nil=>rw [h1,h2,ha,hb] at h3;exact absurd rfl h3
  | cons y r =>
   have hy:=getL_sub (show y ∈ getL keyS b x.f0 by rw [hb];exact List.mem_cons_self ..)
   exact ⟨y,Or.inr hy.1,hy.2.symm⟩
 ·cases hc : getL keyS a x.f0 with
  | nil=>exact absurd hc ha
  | cons y r =>
   have hy:=getL_sub (show y ∈ getL keyS a x.f0 by rw [hc];exact List.mem_cons_self ..)
   exact ⟨y,Or.inl hy.1,hy.2.symm⟩
theorem edk_ev2 {x : SE} (h0 : x.f0.size ≤ 1000) (h1 : x.f1.length ≤ 3) (h2 : ∀ d ∈ x.f1,smallB d = true) (h4 : ∀ d ∈ x.f2,smallB d = true) : ∃ K,∀ k,K ≤ k → Edk k spS sideS smS x:=by
 obtain ⟨K1,e1⟩:=ev_out (Split_val x.f0 (by omega))
 obtain ⟨K2,e2⟩:=ev_out (side_ev x.f1 x.f0 h2)
 obtain ⟨K3,e3⟩:=ev_out (side_ev x.f2 x.f0 h4)
 obtain ⟨K4,e4⟩:=all_ev2 (g:=fun (x y : SD) k=>def_Same.f k x.f0 x.f1 x.f2 x.f3 x.f4 x.f5 y.f0 y.f1 y.f2 y.f3 y.f4 y.f5) (v:=smS) x.f1 x.f2 (fun x hx y _=>same_ev (h2 x hx))
 exact ⟨K1 + K2 + K3 + K4,fun k hk=>⟨⟨_,_,e1 k (by omega)⟩,e2 k (by omega),e3 k (by omega),by omega,e4 k (by omega)⟩⟩
theorem all_K {α : Type} {P : Nat → α → Prop} : ∀ (l : List α),(∀ x ∈ l,∃ K,∀ k,K ≤ k → P k x) → ∃ K,∀ k,K ≤ k → ∀ x ∈ l,P k x
 | [],_=>⟨0,fun k _ d hd=>by cases hd⟩
 | x :: o,h=>by
  obtain ⟨Ka,ha⟩:=all_K o fun d hd=>h d (List.mem_cons_of_mem _ hd)
  obtain ⟨Kb,hb⟩:=h x (List.mem_cons_self ..)
  refine ⟨Ka + Kb,fun k hk d hd=>?_⟩
  rcases List.mem_cons.1 hd with rfl | hd
  ·exact hb k (by omega)
  ·exact ha k (by omega) d hd
theorem key_le {d : SD} (h : smallB d = true) : (keyS d).size ≤ 702:=by
 obtain ⟨a1,a2,a3,a4,a5,a6⟩:=smallD_of h
 unfold keyS
 exact key_size a1 a4
theorem pat_ok {a b : List SD} {p : List SE} (h : Bet keyS a b p) (hp : p.length ≤ 60) (ha : ∀ d ∈ a,smallB d = true ∧ rightB d = true) (hb : ∀ d ∈ b,smallB d = true ∧ rightB d = true) : ∃ K,∀ k,K ≤ k → POk k spS sideS smS keyS a p:=by
 have hm : ∀ x ∈ p,x.f0.size ≤ 702 ∧ x.f1.length ≤ 1 ∧ x.f2.length ≤ 1 ∧ (∀ d ∈ x.f1,d ∈ a) ∧ ∀ d ∈ x.f2,d ∈ b:=fun x hx=>by
  obtain ⟨h1,h2,h3⟩:=(h.2 x).1 hx
  obtain ⟨d,hd,e⟩:=bet_key h hx
  refine ⟨?_,by rw [h1];exact getL_len _ _,by rw [h2];exact getL_len _ _,fun d hd=>?_,fun d hd=>?_⟩
  ·rw [e]
   rcases hd with hd | hd
   ·exact key_le (ha d hd).1
   ·exact key_le (hb d hd).1
  ·rw [h1] at hd
   exact (getL_sub hd).1
  ·rw [h2] at hd
   exact (getL_sub hd).1
 obtain ⟨K1,e1⟩:=all_K (P:=fun k x=>Edk k spS sideS smS x) p fun x hx=>by
  obtain ⟨m1,m2,m3,m4,m5⟩:=hm x hx
  exact edk_ev2 (by omega) (by omega) (fun d hd=>(ha d (m4 d hd)).1) (fun d hd=>(hb d (m5 d hd)).1)
 obtain ⟨K2,e2⟩:=all_ev2 (g:=fun (x y : SD) k=>def_Same.f k x.f0 x.f1 x.f2 x.f3 x.f4 x.f5 y.f0 y.f1 y.f2 y.f3 y.f4 y.f5) (v:=smS) a a (fun x hx y _=>same_ev (ha x hx).1)
 obtain ⟨K3,e3⟩:=all_ev (g:=fun (d : SD) k=>def_Key.f k d.f0 d.f1 d.f2 d.f3 d.f4 d.f5) (v:=keyS) b (fun d hd=>key_ev (hb d hd).1)
 obtain ⟨K4,e4⟩:=ev_out (keys_ev p (by omega))
 refine ⟨K1 + K2 + K3 + K4,fun k hk=>⟨hp,e1 k (by omega),fun x hx=>?_,?_,bet_fits smS alike_eq h,fun x hx=>?_,e4 k (by omega)⟩⟩
 ·obtain ⟨m1,m2,m3,m4,m5⟩:=hm x hx
  refine ⟨Nat.le_trans m1 (by decide),fun u hu v hv=>e2 k (by omega) u ?_ v (m4 v hv)⟩
  rw [getM_mapK] at hu
  exact (getL_sub hu).1
 ·exact bet_right spS sideS smS alike_eq h (fun d hd=>by
   rcases hd with hd | hd
   ·exact ⟨sp_key (ha d hd).2,right_key (ha d hd).2⟩
   ·exact ⟨sp_key (hb d hd).2,right_key (hb d hd).2⟩) side_one
 ·obtain ⟨m1,m2,m3,m4,m5⟩:=hm x hx
  exact ⟨by omega,by omega,fun d hd=>⟨e3 k (by omega) d (m5 d hd),right_key (hb d (m5 d hd)).2,key_lens (hb d (m5 d hd)).1⟩⟩
theorem self_eq {a : List SD} (ha : Ris keyS a) : equalM smS (mapK keyS a) (mapK keyS a) = true:=by
 unfold equalM mapK Lib.equalFuncD
 rw [decide_eq_true rfl,Bool.true_and]
 refine List.all_eq_true.2 fun p hp=>?_
 obtain ⟨x,hx,rfl⟩:=List.mem_map.1 hp
 have h2 : Go.Maps.has (mapK keyS a) (KL (keyS x)) = true:=by
  rw [has_mapK]
  exact List.any_eq_true.2 ⟨_,hx,decide_eq_true rfl⟩
 have h1 : (mapK keyS a).atKey (KL (keyS x)) .nil = .held x:=by
  have hg:=mem_getL ha hx
  unfold getL at hg
  cases hf : a.find? (fun y=>decide (keyS y = keyS x)) with
  | none=>rw [hf] at hg;cases hg
  | some d =>
   rw [hf] at hg
   have e : x = d:=List.mem_singleton.1 hg
   show (DataW.map (a.map (entK keyS))).atKey (KL (keyS x)) .nil = _
   rw [atKey_find,List.find?_map]
   have h3 : ((fun p : Lit × DataW SD=>p.1.sameKey (KL (keyS x))) ∘ entK keyS) = fun y=>decide (keyS y = keyS x):=funext fun y=>same_KL _ _
   rw [h3,hf,e]
   rfl
 show (Go.Maps.has (mapK keyS a) (KL (keyS x)) && eqS smS (.held x) ((mapK keyS a).atKey (KL (keyS x)) .nil)) = true
 rw [h2,h1,Bool.true_and]
 exact smS_self x
theorem made_good {l o : List SD} (hs : ∀ d ∈ l,smallB d = true) (h : newL keyS l [] = (o,0)) : (∀ d ∈ o,smallB d = true ∧ rightB d = true) ∧ o.length ≤ l.length:=by
 have hap:=newL_apart (key:=keyS) (l:=l) (out:=[]) List.Pairwise.nil (by rw [h])
 have hol:=newL_len (key:=keyS) l []
 rw [h] at hol
 have hol : o.length ≤ 0 + l.length:=hol
 refine ⟨fun d hd=>?_,by omega⟩
 have h1 : d ∈ l:=by
  rcases newL_mem (key:=keyS) l [] d (by rw [h];exact hd) with h_ | h_
  ·exact h_
  ·cases h_
 refine ⟨hs d h1,?_⟩
 cases hr : rightB d with
 | true=>rfl
 | false =>
  have h2:=hap.1 d h1
  rw [wrong_key hr] at h2
  exact absurd rfl h2
end Go.Proofs.YtmlebgikdegjjaaGreatDoor.PAll
