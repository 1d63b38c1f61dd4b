/- SnapParses' plain statement: whose snapshot's octets any octets are, and that they are written again the same. -/
import Derived.Test.YtmlebgikdegjjaaGreatDoorPz
import Derived.Test.YtmlebgikdegjjaaGreatDoorPc
import Derived.Test.YtmlebgikdegjjaaGreatDoorVf
namespace Go.Proofs.YtmlebgikdegjjaaGreatDoor.Pure
open Go.RowKit Go.Proofs.YtmlebgikdegjjaaGreatDoor.PAll Go.Proofs.YtmlebgikdegjjaaGreatDoorW.PrintWords Go.Proofs.YtmlebgikdegjjaaGreatDoorW.PrintLast Go.Proofs.YtmlebgikdegjjaaGreatDoor.Hd
set_option linter.unusedVariables false
theorem wf_byte {x : Int} (h : (Lit.int .u8 x).wf = true) : 0 ≤ x ∧ x < 256:=by
 have h : (decide (IntKind.u8.min ≤ x) && decide (x ≤ IntKind.u8.max)) = true:=h
 simp only [Bool.and_eq_true,decide_eq_true_eq] at h
 have h1 : IntKind.u8.min = 0:=by decide
 have h2 : IntKind.u8.max = 255:=by decide
 omega
theorem key_short {kd : Int} {c s : ByteArray} {v : List ByteArray} {l t : ByteArray} (hc : c.size ≤ 2000) (hl : l.size ≤ 2000) : (keyD kd c s v l t).size ≤ 1000000:=by
 unfold keyD
 split
 ·split
  ·omega
  ·rw [size_app,size_app]
   have : arrowB.size = 2:=rfl
   omega
 ·show 0 ≤ 1000000
  omega
theorem short_parts {d : SD} (hr : rightB d = true) (hl : (defS d).length ≤ 2000) : d.f1.size ≤ 2000 ∧ d.f2.size ≤ 2000 ∧ d.f3.length ≤ 2000 ∧ d.f4.size ≤ 2000 ∧ d.f5.size ≤ 2000 ∧ ∀ x ∈ d.f3,x.size ≤ 2000:=by
 obtain ⟨kd,c,s,v,l,t⟩:=d
 have hr : rightD kd c s v l t = true:=hr
 have hl : (defO kd c s v l t).length ≤ 2000:=hl
 have b4 : ∀ n,(be4 n).length = 4:=fun _=>rfl
 dsimp only
 rcases rightD_kd hr with hk | hk
 ·subst hk
  obtain ⟨rfl,rfl⟩:=rightD_one hr
  unfold defO at hl
  rw [if_pos rfl,List.length_append,List.length_append,List.length_append,List.length_append,b4,b4,textO_len,textO_len] at hl
  have h1:=listO_ge v
  have hz : (noB : ByteArray).size = 0:=rfl
  refine ⟨by omega,by omega,by omega,by omega,by omega,fun x hx=>?_⟩
  have h2 : (textO x).length ≤ (v.flatMap textO).length:=by
   obtain ⟨a,b,rfl⟩:=List.append_of_mem hx
   rw [List.flatMap_append,List.flatMap_cons,List.length_append,List.length_append]
   omega
  rw [textO_len] at h2
  omega
 ·subst hk
  obtain ⟨rfl,rfl⟩:=rightD_two hr
  unfold defO at hl
  rw [if_neg (by decide),List.length_append,List.length_append,List.length_append,b4,textO_len,textO_len,textO_len] at hl
  have hz : (noB : ByteArray).size = 0:=rfl
  exact ⟨by omega,by omega,Nat.zero_le _,by omega,by omega,fun x hx=>by cases hx⟩
theorem wok_short {d : SD} (hr : rightB d = true) (hl : (defS d).length ≤ 2000) : ∃ K,∀ k,K ≤ k → Wok k d:=by
 obtain ⟨a1,a2,a3,a4,a5,a6⟩:=short_parts hr hl
 obtain ⟨K,hK⟩:=ev_out (Right_val d.f0 d.f1 d.f2 d.f3 d.f4 d.f5 (by omega) (by omega))
 exact ⟨K,fun k hk=>⟨(hK k hk).trans (congrArg some hr),rightD_kd hr,⟨by omega,by omega,by omega,by omega,by omega⟩,fun x hx=>by have:=a6 x hx;omega,by omega⟩⟩
theorem all_wokS : ∀ (o : List SD),(∀ d ∈ o,rightB d = true ∧ (defS d).length ≤ 2000) → ∃ K,∀ k,K ≤ k → ∀ d ∈ o,Wok k d
 | [],_=>⟨0,fun k _ d hd=>by cases hd⟩
 | x :: o,h=>by
  obtain ⟨Ka,ha⟩:=all_wokS o fun d hd=>h d (List.mem_cons_of_mem _ hd)
  obtain ⟨Kb,hb⟩:=wok_short (h x (List.mem_cons_self ..)).1 (h x (List.mem_cons_self ..)).2
  refine ⟨Ka + Kb,fun k hk d hd=>?_⟩
  rcases List.mem_cons.1 hd with rfl | hd
  ·exact hb k (by omega)
  ·exact ha k (by omega) d hd
theorem parseL_inv : ∀ (n : Nat) {b rest : List Int} {acc out : List SD},BytesOk b → parseL keyS n b acc = (out,0,rest) → ∃ ds,out = acc ++ ds ∧ ds.length = n ∧ b = ds.flatMap defS ++ rest ∧ ∀ d ∈ ds,rightB d = true
 | 0,b,rest,acc,out,hb,h=>by
  injection h with h1 h2
  injection h2 with _ h2
  exact ⟨[],by rw [← h1,List.append_nil],rfl,by rw [← h2];rfl,fun d hd=>by cases hd⟩
 | n + 1,b,rest,acc,out,hb,h=>by
  obtain ⟨dv,ed,b',e',hq⟩ : ∃ d e b' e',readR b 0 = (d,e,b',e'):=⟨_,_,_,_,rfl⟩
  by_cases he : ed = 0
  ·subst he
   obtain ⟨i1,i2,i3⟩:=readR_inv hb hq
   have hb' : BytesOk b':=fun x hx=>hb x (by rw [i1];exact List.mem_append_right _ hx)
   cases hk : ltK (lastA keyS acc) (keyS (toS dv)) with
   | true =>
    rw [parseL_next hq hk] at h
    obtain ⟨ds,j1,j2,j3,j4⟩:=parseL_inv n hb' h
    refine ⟨toS dv :: ds,by rw [j1,List.append_assoc];rfl,by rw [List.length_cons,j2],?_,fun d hd=>?_⟩
    ·rw [List.flatMap_cons,List.append_assoc,← j3]
     exact i1
    ·rcases List.mem_cons.1 hd with rfl | hd
     ·exact i3
     ·exact j4 d hd
   | false =>
    rw [parseL_order hq hk] at h
    injection h with _ h
    injection h with h _
    cases h
  ·rw [parseL_fell hq he] at h
   injection h with _ h
   injection h with h _
   exact absurd h he
theorem parseR_inv {bs : List Int} {out : List SD} (hb : BytesOk bs) (h : parseR keyS bs = (out,0)) : snapO out = bs ∧ out.length ≤ 500 ∧ ∀ d ∈ out,rightB d = true:=by
 obtain ⟨n,b1,e1,hq⟩ : ∃ n b e,numR bs 0 = (n,b,e):=⟨_,_,_,rfl⟩
 by_cases he : e1 = 0
 ·subst he
  obtain ⟨i0,i1,i2⟩:=numR_inv hb hq
  have hb1 : BytesOk b1:=fun x hx=>hb x (by rw [i0];exact List.mem_append_right _ hx)
  by_cases hn : n > 500
  ·rw [parseR_full hq hn] at h
   injection h with _ h
   cases h
  ·obtain ⟨o,el,rest,hl⟩ : ∃ o e r,parseL keyS n.toNat b1 [] = (o,e,r):=⟨_,_,_,rfl⟩
   by_cases h1 : el = 0
   ·subst h1
    by_cases h2 : rest = []
    ·subst h2
     rw [parseR_good hq hn (by rw [hl]) (by rw [hl]),hl] at h
     injection h with h _
     obtain ⟨ds,j1,j2,j3,j4⟩:=parseL_inv _ hb1 hl
     rw [List.nil_append] at j1
     rw [List.append_nil] at j3
     have h : o = out:=h
     rw [← h,j1]
     refine ⟨?_,by omega,j4⟩
     show be4 (ds.length : Int) ++ ds.flatMap defS = bs
     rw [j2,← j3,show ((n.toNat : Nat) : Int) = n by omega]
     exact i0.symm
    ·rw [parseR_rest hq hn (by rw [hl]) (by rw [hl];exact h2)] at h
     injection h with _ h
     cases h
   ·rw [parseR_fell hq hn (by rw [hl];exact h1),hl] at h
    injection h with _ h
    exact absurd h h1
 ·rw [parseR_num hq he] at h
  injection h with _ h
  exact absurd h he
theorem one_len {d : SD} {o : List SD} (h : d ∈ o) : (defS d).length ≤ (snapO o).length:=by
 obtain ⟨a,b,rfl⟩:=List.append_of_mem h
 unfold snapO
 simp only [List.flatMap_append,List.flatMap_cons,List.length_append]
 omega
theorem SnapParses (A0 : Option Addr) (c0 : Nat) (bs : List Int) (w : World) (hr : Kd.C (Kd.int .u8) w A0 bs.length bs) (hc : bs.length ≤ c0) (hw : ∀ x ∈ bs,(Lit.int .u8 x).wf = true) :
  Calls Tryz.prog 13 #[.slice A0 bs.length c0] w fun e w'=>e = .returned (.bool true) ∧ Below w.heap.size w w':=by
 by_cases hl : bs.length ≤ 1500
 case neg=>exact parses_long A0 c0 bs w hr hl
 case pos =>
  have hok : BytesOk bs:=fun x hx=>wf_byte (hw x hx)
  have shortR : ∀ (b : List Int) (d : DV) (b' : List Int) (e' : Int),BytesOk b → b.length ≤ 2000 → readR b 0 = (d,0,b',e') → rightB (toS d) = true ∧ (defS (toS d)).length ≤ 2000:=fun b d b' e' ho hlb h=>by
   obtain ⟨i1,_,i3⟩:=readR_inv ho h
   refine ⟨i3,?_⟩
   have:=congrArg List.length i1
   rw [List.length_append] at this
   omega
  obtain ⟨out,en,hpr⟩ : ∃ o e,parseR keyS bs = (o,e):=⟨_,_,rfl⟩
  have hk : ∃ k,en = 0 → (∀ d ∈ out,Wok k d) ∧ (∀ x ∈ out,∀ y ∈ out,r07_Same.f k x.f0 x.f1 x.f2 x.f3 x.f4 x.f5 y.f0 y.f1 y.f2 y.f3 y.f4 y.f5 = some (smS x y)):=by
   by_cases he : en = 0
   ·subst he
    obtain ⟨j1,j2,j3⟩:=parseR_inv hok hpr
    have hs : ∀ d ∈ out,rightB d = true ∧ (defS d).length ≤ 2000:=fun d hd=>⟨j3 d hd,by have:=one_len hd;rw [j1] at this;omega⟩
    obtain ⟨K1,h1⟩:=all_wokS out hs
    obtain ⟨K2,h2⟩:=all_ev2 (g:=fun (x y : SD) k=>r07_Same.f k x.f0 x.f1 x.f2 x.f3 x.f4 x.f5 y.f0 y.f1 y.f2 y.f3 y.f4 y.f5) (v:=smS) out out (fun x hx y _=>refDSame_val _ _ _ _ _ _ _ _ _ _ _ _ (by have:=(short_parts (hs x hx).1 (hs x hx).2).2.2.1;omega))
    exact ⟨K1 + K2,fun _=>⟨h1 _ (by omega),h2 _ (by omega)⟩⟩
   ·exact ⟨0,fun h=>absurd h he⟩
  obtain ⟨k,hk⟩:=hk
  refine parses_go keyS smS k A0 c0 bs w hr hc hl hok (fun b d b' e' ho h=>⟨(readR_inv ho h).1,(readR_inv ho h).2.1⟩) ?_ ?_ out en hpr ?_
  ·intro b d b' e' ho hlb h
   obtain ⟨s1,s2⟩:=shortR b d b' e' ho hlb h
   obtain ⟨a1,a2,a3,a4,a5,a6⟩:=short_parts s1 s2
   refine ⟨(Key_val _ _ _ _ _ _ (show d.v.length ≤ _ from Nat.le_trans a3 (by decide)) (show d.c.size ≤ _ from Nat.le_trans a1 (by decide)) (show d.l.size < _ from Nat.lt_of_le_of_lt a4 (by decide))).rounds,?_⟩
   show (keyD d.kd d.c d.s d.v d.l d.t).size ≤ 1000000
   have h1 : d.c.size ≤ 2000:=a1
   have h2 : d.l.size ≤ 2000:=a4
   exact key_short h1 h2
  ·intro b d b' e' ho hlb h
   obtain ⟨s1,s2⟩:=shortR b d b' e' ho hlb h
   obtain ⟨a1,a2,a3,a4,a5,a6⟩:=short_parts s1 s2
   exact ⟨(refKey_val _ _ _ _ _ _ (show d.v.length ≤ _ from Nat.le_trans a3 (by decide)) (fun x hx=>Nat.le_trans (a6 x hx) (by decide)) (show d.c.size ≤ _ from Nat.le_trans a1 (by decide)) (show d.s.size ≤ _ from Nat.le_trans a2 (by decide)) (show d.l.size ≤ _ from Nat.le_trans a4 (by decide))).rounds,right_key s1⟩
  ·intro he
   subst he
   obtain ⟨j1,j2,j3⟩:=parseR_inv hok hpr
   have hs : ∀ d ∈ out,rightB d = true ∧ (defS d).length ≤ 2000:=fun d hd=>⟨j3 d hd,by have:=one_len hd;rw [j1] at this;omega⟩
   obtain ⟨k1,k2⟩:=hk rfl
   exact ⟨j1,j2,fun d hd=>by have:=(short_parts (hs d hd).1 (hs d hd).2).2.2.1;omega,k1,k2,fun x _=>smS_self x⟩
end Go.Proofs.YtmlebgikdegjjaaGreatDoor.Pure
