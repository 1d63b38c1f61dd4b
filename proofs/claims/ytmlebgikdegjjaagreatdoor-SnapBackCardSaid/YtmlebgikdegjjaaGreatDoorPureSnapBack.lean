/- SnapBack's plain statement: a snapshot's octets are read as it, and two have the same octets just if they have the same definitions. -/
import Derived.Test.YtmlebgikdegjjaaGreatDoorPz
import Derived.Test.YtmlebgikdegjjaaGreatDoorPb
import Derived.Test.YtmlebgikdegjjaaGreatDoorVb
namespace Go.Proofs.YtmlebgikdegjjaaGreatDoor.Pure
open Go.RowKit Go.Proofs.YtmlebgikdegjjaaGreatDoor.PAll Go.Proofs.YtmlebgikdegjjaaGreatDoorW.PrintWords Go.Proofs.YtmlebgikdegjjaaGreatDoorW.PrintLast
open Go.Proofs.YtmlebgikdegjjaaGreatDoor.Hd (newL newGo back_few1 back_few2 back_bad1 back_bad2 back_go new_mapK Wok snapO defS newL_apart newL_mem newL_len)
set_option linter.unusedVariables false
theorem right_size {d : SD} (h : (keyS d).size ≠ 0) : rightB d = true:=by
 cases hr : rightB d with
 | true=>rfl
 | false =>
  rw [wrong_key hr] at h
  exact absurd rfl h
theorem all_wok : ∀ (o : List SD),(∀ d ∈ o,smallB d = true ∧ rightB d = true) → ∃ K,∀ k,K ≤ k → ∀ d ∈ o,Wok k d
 | [],_=>⟨0,fun k _ d hd=>by cases hd⟩
 | x :: o,h=>by
  obtain ⟨Ka,ha⟩:=all_wok o fun d hd=>h d (List.mem_cons_of_mem _ hd)
  obtain ⟨Kb,hb⟩:=write_ok (h x (List.mem_cons_self ..)).1 (h x (List.mem_cons_self ..)).2
  refine ⟨Ka + Kb,fun k hk d hd=>?_⟩
  rcases List.mem_cons.1 hd with rfl | hd
  ·exact hb k (by omega)
  ·exact ha k (by omega) d hd
theorem out_good {l o : List SD} (hs : ∀ d ∈ l,smallB d = true) (h : newL keyS l [] = (o,0)) : (∀ d ∈ o,smallB d = true ∧ rightB d = true) ∧ o.length ≤ l.length:=by
 have hap:=newL_apart (key:=keyS) (l:=l) (out:=[]) List.Pairwise.nil (by rw [h])
 have hol:=newL_len (key:=keyS) l []
 rw [h] at hol
 have hol : o.length ≤ 0 + l.length:=hol
 refine ⟨fun d hd=>?_,by omega⟩
 have h1 : d ∈ l:=by
  rcases newL_mem (key:=keyS) l [] d (by rw [h];exact hd) with h_ | h_
  ·exact h_
  ·cases h_
 exact ⟨hs d h1,right_size (hap.1 d h1)⟩
theorem SnapBack (A0 : Option Addr) (c0 : Nat) (l : List SD) (A1 : Option Addr) (c1 : Nat) (m : List SD) (w : World) (hr0 : Kd.C k34 w A0 l.length l) (hc0 : l.length ≤ c0) (hr1 : Kd.C k34 w A1 m.length m) (hc1 : m.length ≤ c1) :
  Calls Tryz.prog 14 #[.slice A0 l.length c0,.slice A1 m.length c1] w fun e w'=>e = .returned (.bool true) ∧ Below w.heap.size w w':=by
 obtain ⟨bl,hbl,hfl⟩:=few07_tot l 10 (by decide)
 obtain ⟨bm,hbm,hfm⟩:=few07_tot m 10 (by decide)
 obtain ⟨K1,h1⟩:=ev_out hbl
 obtain ⟨K2,h2⟩:=ev_out hbm
 cases bl with
 | false=>exact back_few1 (K1 + K2) keyS A0 c0 l A1 c1 m w hr0 hc0 hr1 hc1 (h1 _ (by omega)) bm (h2 _ (by omega))
 | true =>
  cases bm with
  | false=>exact back_few2 (K1 + K2) keyS A0 c0 l A1 c1 m w hr0 hc0 hr1 hc1 (h1 _ (by omega)) (h2 _ (by omega))
  | true =>
   obtain ⟨hln,hs0⟩:=hfl rfl
   obtain ⟨hmn,hs1⟩:=hfm rfl
   have hLs : ∀ d ∈ l,smallB d = true:=hs0
   have hMs : ∀ d ∈ m,smallB d = true:=hs1
   clear hs0 hs1
   obtain ⟨K3,h3⟩:=all_ev (g:=fun (d : SD) k=>def_Key.f k d.f0 d.f1 d.f2 d.f3 d.f4 d.f5) (v:=keyS) l (fun d hd=>key_ev (hLs d hd))
   obtain ⟨K4,h4⟩:=all_ev (g:=fun (d : SD) k=>def_Key.f k d.f0 d.f1 d.f2 d.f3 d.f4 d.f5) (v:=keyS) m (fun d hd=>key_ev (hMs d hd))
   obtain ⟨o1,e1,hn1⟩ : ∃ o e,newL keyS l [] = (o,e):=⟨_,_,rfl⟩
   obtain ⟨o2,e2,hn2⟩ : ∃ o e,newL keyS m [] = (o,e):=⟨_,_,rfl⟩
   have g1:=(new_mapK (key:=keyS) l (out:=[]) List.Pairwise.nil).1
   have g2:=(new_mapK (key:=keyS) m (out:=[]) List.Pairwise.nil).1
   rw [hn1] at g1
   rw [hn2] at g2
   by_cases he1 : e1 = 0
   case neg =>
    exact back_bad1 (K1 + K2 + K3 + K4) keyS A0 c0 l A1 c1 m w hr0 hc0 hr1 hc1 (h1 _ (by omega)) (h2 _ (by omega)) hln hmn (fun d hd=>⟨h3 _ (by omega) d hd,key_lens (hLs d hd)⟩) (fun d hd=>⟨h4 _ (by omega) d hd,key_lens (hMs d hd)⟩)
     (newGo keyS l (.map [])).1 (newGo keyS m (.map [])).1 e1 e2 (Prod.ext rfl g1) (Prod.ext rfl g2) he1
   case pos =>
    by_cases he2 : e2 = 0
    case neg =>
     exact back_bad2 (K1 + K2 + K3 + K4) keyS A0 c0 l A1 c1 m w hr0 hc0 hr1 hc1 (h1 _ (by omega)) (h2 _ (by omega)) hln hmn (fun d hd=>⟨h3 _ (by omega) d hd,key_lens (hLs d hd)⟩) (fun d hd=>⟨h4 _ (by omega) d hd,key_lens (hMs d hd)⟩)
      (newGo keyS l (.map [])).1 (newGo keyS m (.map [])).1 e1 e2 (Prod.ext rfl g1) (Prod.ext rfl g2) he1 he2
    case pos =>
     subst he1
     subst he2
     obtain ⟨q1,l1⟩:=out_good hLs hn1
     obtain ⟨q2,l2⟩:=out_good hMs hn2
     have r1 : Go.Proofs.YtmlebgikdegjjaaGreatDoor.Hd.Ris keyS o1:=by
      have h_:=(new_mapK (key:=keyS) l (out:=[]) List.Pairwise.nil).2.1 (by rw [hn1])
      rw [hn1] at h_
      exact h_.2
     have r2 : Go.Proofs.YtmlebgikdegjjaaGreatDoor.Hd.Ris keyS o2:=by
      have h_:=(new_mapK (key:=keyS) m (out:=[]) List.Pairwise.nil).2.1 (by rw [hn2])
      rw [hn2] at h_
      exact h_.2
     obtain ⟨K5,h5⟩:=all_ev2 (g:=fun (x y : SD) k=>def_Same.f k x.f0 x.f1 x.f2 x.f3 x.f4 x.f5 y.f0 y.f1 y.f2 y.f3 y.f4 y.f5) (v:=smS) o1 o1 (fun x hx y _=>same_ev (q1 x hx).1)
     obtain ⟨K6,h6⟩:=all_ev2 (g:=fun (x y : SD) k=>def_Same.f k x.f0 x.f1 x.f2 x.f3 x.f4 x.f5 y.f0 y.f1 y.f2 y.f3 y.f4 y.f5) (v:=smS) o1 o2 (fun x hx y _=>same_ev (q1 x hx).1)
     obtain ⟨K7,h7⟩:=all_wok o1 q1
     obtain ⟨K8,h8⟩:=all_wok o2 q2
     obtain ⟨k,hk⟩ : ∃ k,k = K1 + K2 + K3 + K4 + K5 + K6 + K7 + K8:=⟨_,rfl⟩
     obtain ⟨bq,hbq⟩ : ∃ bq,Go.Proofs.YtmlebgikdegjjaaGreatDoor.Hd.equalM smS (Go.Proofs.YtmlebgikdegjjaaGreatDoor.Hd.mapK keyS o1) (Go.Proofs.YtmlebgikdegjjaaGreatDoor.Hd.mapK keyS o2) = bq:=⟨_,rfl⟩
     refine back_go smS bq o1 o2 k keyS A0 c0 l A1 c1 m w hr0 hc0 hr1 hc1 (h1 _ (by omega)) (h2 _ (by omega)) hln hmn (fun d hd=>⟨h3 _ (by omega) d hd,key_lens (hLs d hd)⟩) (fun d hd=>⟨h4 _ (by omega) d hd,key_lens (hMs d hd)⟩) hn1 hn2
      (fun x hx y hy=>h5 k (by omega) x hx y hy) (fun x hx y hy=>h6 k (by omega) x hx y hy) (fun x _=>smS_self x) (fun d hd=>h7 k (by omega) d hd) (fun d hd=>h8 k (by omega) d hd) ?_ (snap_ok o1) (fun d hd r=>readS_back (q1 d hd).1 (q1 d hd).2 r)
      (numR_back _ _ (by omega) (by omega)) (fun d hd=>right_key (q1 d hd).2) hbq ?_
     ·have h_:=snap_len o1 (fun d hd=>(q1 d hd).1)
      show (Go.Proofs.YtmlebgikdegjjaaGreatDoor.Hd.be4 (o1.length : Int) ++ o1.flatMap defS).length ≤ 100000
      rw [List.length_append,show (Go.Proofs.YtmlebgikdegjjaaGreatDoor.Hd.be4 (o1.length : Int)).length = 4 from rfl]
      omega
     ·rw [← hbq,equal_iff r1 r2,beq_text]
      by_cases he : o1 = o2
      ·rw [he]
       rw [decide_eq_true rfl,@decide_eq_true _ (_) rfl]
      ·rw [@decide_eq_false _ (_) he,decide_eq_false fun h_=>he (snap_inj q1 q2 (by omega) (by omega) (strOf_inj (snap_ok o1) (snap_ok o2) h_))]
end Go.Proofs.YtmlebgikdegjjaaGreatDoor.Pure
