/- DiffChains' plain statement: two patches, one behind the other, lead where the patch from the first to the last one leads. -/
import Derived.Test.YtmlebgikdegjjaaGreatDoorPl
import Derived.Test.YtmlebgikdegjjaaGreatDoorDq
namespace Go.Proofs.YtmlebgikdegjjaaGreatDoor.Pure
open Go.RowKit Go.Proofs.YtmlebgikdegjjaaGreatDoor.PAll Go.Proofs.YtmlebgikdegjjaaGreatDoorW.PrintWords Go.Proofs.YtmlebgikdegjjaaGreatDoorW.PrintLast
open Go.Proofs.YtmlebgikdegjjaaGreatDoor.Hd (newL newGo new_mapK mapK Ris bet_apply chains_few0 chains_few1 chains_few2 chains_bad0 chains_bad1 chains_bad2 chains_go ElemOf)
set_option linter.unusedVariables false
theorem made_map (l : List SD) {o : List SD} {e : Int} (h : newL keyS l [] = (o,e)) : (newGo keyS l (.map [])).2 = e ∧ (e = 0 → newGo keyS l (.map []) = (mapK keyS o,0) ∧ Ris keyS o):=by
 have g:=new_mapK (key:=keyS) l (out:=[]) List.Pairwise.nil
 rw [h] at g
 refine ⟨g.1,fun he=>?_⟩
 obtain ⟨g1,g2,_⟩:=g
 obtain ⟨g3,g4⟩:=g2 he
 exact ⟨Prod.ext g3 (g1.trans he),g4⟩
theorem elem_in {o : List SD} {x : SD} (h : ElemOf (mapK keyS o) x) : x ∈ o:=by
 obtain ⟨kl,h⟩:=h
 have h1:=h .nil
 show x ∈ o
 have h2 : (Go.DataW.map (o.map (Go.Proofs.YtmlebgikdegjjaaGreatDoor.Hd.entK keyS))).atKey kl .nil = .held x:=h1
 rw [Go.Proofs.YtmlebgikdegjjaaGreatDoor.Hd.atKey_find] at h2
 cases hf : (o.map (Go.Proofs.YtmlebgikdegjjaaGreatDoor.Hd.entK keyS)).find? (fun p=>p.1.sameKey kl) with
 | none=>rw [hf] at h2;cases h2
 | some p =>
  rw [hf] at h2
  obtain ⟨y,hy,rfl⟩:=List.mem_map.1 (List.mem_of_find?_eq_some hf)
  have h3 : (Go.DataW.held y : Go.DataW SD) = .held x:=h2
  injection h3 with h3
  rw [← h3]
  exact hy
theorem DiffChains (A0 : Option Addr) (c0 : Nat) (l0 : List SD) (A1 : Option Addr) (c1 : Nat) (l1 : List SD) (A2 : Option Addr) (c2 : Nat) (l2 : List SD) (w : World) (hmx : Nm.MaxOk w) (hr0 : Kd.C k34 w A0 l0.length l0) (hc0 : l0.length ≤ c0) (hr1 : Kd.C k34 w A1 l1.length l1) (hc1 : l1.length ≤ c1) (hr2 : Kd.C k34 w A2 l2.length l2) (hc2 : l2.length ≤ c2) :
  Calls Tryz.prog 11 #[.agg #[.slice A0 l0.length c0,.slice A1 l1.length c1,.slice A2 l2.length c2]] w fun e w'=>e = .returned (.bool true) ∧ Below w.heap.size w w':=by
 obtain ⟨b0,hb0,hf0⟩:=few07_tot l0 8 (by decide)
 obtain ⟨b1,hb1,hf1⟩:=few07_tot l1 8 (by decide)
 obtain ⟨b2,hb2,hf2⟩:=few07_tot l2 8 (by decide)
 obtain ⟨K0,h0⟩:=ev_out hb0
 obtain ⟨K1,h1⟩:=ev_out hb1
 obtain ⟨K2,h2⟩:=ev_out hb2
 cases b0 with
 | false=>exact chains_few0 (K0 + K1 + K2) w hmx A0 c0 l0 A1 c1 l1 A2 c2 l2 hr0 hc0 hr1 hc1 hr2 hc2 (h0 _ (by omega))
 | true =>
 cases b1 with
 | false=>exact chains_few1 (K0 + K1 + K2) w hmx A0 c0 l0 A1 c1 l1 A2 c2 l2 hr0 hc0 hr1 hc1 hr2 hc2 (h0 _ (by omega)) (h1 _ (by omega))
 | true =>
 cases b2 with
 | false=>exact chains_few2 (K0 + K1 + K2) w hmx A0 c0 l0 A1 c1 l1 A2 c2 l2 hr0 hc0 hr1 hc1 hr2 hc2 (h0 _ (by omega)) (h1 _ (by omega)) (h2 _ (by omega))
 | true =>
 obtain ⟨n0,s0⟩:=hf0 rfl
 obtain ⟨n1,s1⟩:=hf1 rfl
 obtain ⟨n2,s2⟩:=hf2 rfl
 have s0 : ∀ d ∈ l0,smallB d = true:=s0
 have s1 : ∀ d ∈ l1,smallB d = true:=s1
 have s2 : ∀ d ∈ l2,smallB d = true:=s2
 obtain ⟨K3,h3⟩:=all_ev (g:=fun (d : SD) k=>def_Key.f k d.f0 d.f1 d.f2 d.f3 d.f4 d.f5) (v:=keyS) l0 (fun d hd=>key_ev (s0 d hd))
 obtain ⟨K4,h4⟩:=all_ev (g:=fun (d : SD) k=>def_Key.f k d.f0 d.f1 d.f2 d.f3 d.f4 d.f5) (v:=keyS) l1 (fun d hd=>key_ev (s1 d hd))
 obtain ⟨K5,h5⟩:=all_ev (g:=fun (d : SD) k=>def_Key.f k d.f0 d.f1 d.f2 d.f3 d.f4 d.f5) (v:=keyS) l2 (fun d hd=>key_ev (s2 d hd))
 obtain ⟨o0,e0,hn0⟩ : ∃ o e,newL keyS l0 [] = (o,e):=⟨_,_,rfl⟩
 obtain ⟨o1,e1,hn1⟩ : ∃ o e,newL keyS l1 [] = (o,e):=⟨_,_,rfl⟩
 obtain ⟨o2,e2,hn2⟩ : ∃ o e,newL keyS l2 [] = (o,e):=⟨_,_,rfl⟩
 obtain ⟨g0,m0⟩:=made_map l0 hn0
 obtain ⟨g1,m1⟩:=made_map l1 hn1
 obtain ⟨g2,m2⟩:=made_map l2 hn2
 have y0 : ∀ k,K3 ≤ k → ∀ d ∈ l0,def_Key.f k d.f0 d.f1 d.f2 d.f3 d.f4 d.f5 = some (keyS d) ∧ (keyS d).size ≤ 1000000 ∧ d.f3.length ≤ 1000000:=fun k hk d hd=>⟨h3 k hk d hd,key_lens (s0 d hd)⟩
 have y1 : ∀ k,K4 ≤ k → ∀ d ∈ l1,def_Key.f k d.f0 d.f1 d.f2 d.f3 d.f4 d.f5 = some (keyS d) ∧ (keyS d).size ≤ 1000000 ∧ d.f3.length ≤ 1000000:=fun k hk d hd=>⟨h4 k hk d hd,key_lens (s1 d hd)⟩
 have y2 : ∀ k,K5 ≤ k → ∀ d ∈ l2,def_Key.f k d.f0 d.f1 d.f2 d.f3 d.f4 d.f5 = some (keyS d) ∧ (keyS d).size ≤ 1000000 ∧ d.f3.length ≤ 1000000:=fun k hk d hd=>⟨h5 k hk d hd,key_lens (s2 d hd)⟩
 have p0 : newGo keyS l0 (.map []) = ((newGo keyS l0 (.map [])).1,e0):=Prod.ext rfl g0
 have p1 : newGo keyS l1 (.map []) = ((newGo keyS l1 (.map [])).1,e1):=Prod.ext rfl g1
 have p2 : newGo keyS l2 (.map []) = ((newGo keyS l2 (.map [])).1,e2):=Prod.ext rfl g2
 by_cases z0 : e0 = 0
 case neg=>exact chains_bad0 keyS (K0 + K1 + K2 + K3 + K4 + K5) w hmx A0 c0 l0 A1 c1 l1 A2 c2 l2 hr0 hc0 hr1 hc1 hr2 hc2 (h0 _ (by omega)) (h1 _ (by omega)) (h2 _ (by omega)) (by omega) (y0 _ (by omega)) (by omega) (y1 _ (by omega)) (by omega) (y2 _ (by omega)) _ e0 p0 _ e1 p1 _ e2 p2 z0
 case pos =>
 by_cases z1 : e1 = 0
 case neg=>exact chains_bad1 keyS (K0 + K1 + K2 + K3 + K4 + K5) w hmx A0 c0 l0 A1 c1 l1 A2 c2 l2 hr0 hc0 hr1 hc1 hr2 hc2 (h0 _ (by omega)) (h1 _ (by omega)) (h2 _ (by omega)) (by omega) (y0 _ (by omega)) (by omega) (y1 _ (by omega)) (by omega) (y2 _ (by omega)) _ e0 p0 _ e1 p1 _ e2 p2 z0 z1
 case pos =>
 by_cases z2 : e2 = 0
 case neg=>exact chains_bad2 keyS (K0 + K1 + K2 + K3 + K4 + K5) w hmx A0 c0 l0 A1 c1 l1 A2 c2 l2 hr0 hc0 hr1 hc1 hr2 hc2 (h0 _ (by omega)) (h1 _ (by omega)) (h2 _ (by omega)) (by omega) (y0 _ (by omega)) (by omega) (y1 _ (by omega)) (by omega) (y2 _ (by omega)) _ e0 p0 _ e1 p1 _ e2 p2 z0 z1 z2
 case pos =>
 subst z0 z1 z2
 obtain ⟨m0,r0⟩:=m0 rfl
 obtain ⟨m1,r1⟩:=m1 rfl
 obtain ⟨m2,r2⟩:=m2 rfl
 obtain ⟨q0,u0⟩:=made_good s0 hn0
 obtain ⟨q1,u1⟩:=made_good s1 hn1
 obtain ⟨q2,u2⟩:=made_good s2 hn2
 have n01:=pat_len o0 o1
 have n12:=pat_len o1 o2
 have n02:=pat_len o0 o2
 obtain ⟨K6,h6⟩:=pat_ok (pat_bet o0 o1) (by omega) q0 q1
 obtain ⟨K7,h7⟩:=pat_ok (pat_bet o1 o2) (by omega) q1 q2
 obtain ⟨K8,h8⟩:=pat_ok (pat_bet o0 o2) (by omega) q0 q2
 have sm2 : ∀ (a b : List SD),(∀ d ∈ a,smallB d = true ∧ rightB d = true) → ∃ K,∀ k,K ≤ k → ∀ x ∈ a,∀ y ∈ b,def_Same.f k x.f0 x.f1 x.f2 x.f3 x.f4 x.f5 y.f0 y.f1 y.f2 y.f3 y.f4 y.f5 = some (smS x y):=fun a b ha=>all_ev2 (g:=fun (x y : SD) k=>def_Same.f k x.f0 x.f1 x.f2 x.f3 x.f4 x.f5 y.f0 y.f1 y.f2 y.f3 y.f4 y.f5) (v:=smS) a b (fun x hx y _=>same_ev (ha x hx).1)
 have ky2 : ∀ (a : List SD),(∀ d ∈ a,smallB d = true ∧ rightB d = true) → ∃ K,∀ k,K ≤ k → ∀ d ∈ a,def_Key.f k d.f0 d.f1 d.f2 d.f3 d.f4 d.f5 = some (keyS d) ∧ (keyS d).size ≤ 1000000:=fun a ha=>by
  obtain ⟨K,h⟩:=all_ev (g:=fun (d : SD) k=>def_Key.f k d.f0 d.f1 d.f2 d.f3 d.f4 d.f5) (v:=keyS) a (fun d hd=>key_ev (ha d hd).1)
  exact ⟨K,fun k hk d hd=>⟨h k hk d hd,(key_lens (ha d hd).1).1⟩⟩
 obtain ⟨K9,h9⟩:=sm2 o0 o1 q0
 obtain ⟨Ka,ha⟩:=sm2 o1 o2 q1
 obtain ⟨Kb,hb⟩:=sm2 o0 o2 q0
 obtain ⟨Kc,hc⟩:=sm2 o2 o2 q2
 obtain ⟨Kd_,hd⟩:=ky2 o0 q0
 obtain ⟨Ke,he⟩:=ky2 o1 q1
 obtain ⟨Kf,hf⟩:=ky2 o2 q2
 obtain ⟨k,hk⟩ : ∃ k,k = K0 + K1 + K2 + K3 + K4 + K5 + K6 + K7 + K8 + K9 + Ka + Kb + Kc + Kd_ + Ke + Kf:=⟨_,rfl⟩
 exact chains_go smS spS sideS keyS k w hmx A0 c0 l0 A1 c1 l1 A2 c2 l2 hr0 hc0 hr1 hc1 hr2 hc2 (h0 _ (by omega)) (h1 _ (by omega)) (h2 _ (by omega)) (by omega) (y0 _ (by omega)) (by omega) (y1 _ (by omega)) (by omega) (y2 _ (by omega))
  o0 m0 r0 (by omega) (fun d hd=>(key_lens (q0 d hd).1).2) (hd _ (by omega)) o1 m1 r1 (by omega) (fun d hd=>(key_lens (q1 d hd).1).2) (he _ (by omega)) o2 m2 r2 (by omega) (fun d hd=>(key_lens (q2 d hd).1).2) (hf _ (by omega))
  (patS o0 o1) rfl (h6 _ (by omega)) (bet_apply r0 r1 (pat_bet o0 o1)) (h9 _ (by omega)) (patS o1 o2) rfl (h7 _ (by omega)) (bet_apply r1 r2 (pat_bet o1 o2)) (ha _ (by omega)) (patS o0 o2) rfl (h8 _ (by omega)) (bet_apply r0 r2 (pat_bet o0 o2)) (hb _ (by omega))
  (fun x y hx hy=>hc _ (by omega) x (elem_in hx) y (elem_in hy)) (self_eq r2)
end Go.Proofs.YtmlebgikdegjjaaGreatDoor.Pure
