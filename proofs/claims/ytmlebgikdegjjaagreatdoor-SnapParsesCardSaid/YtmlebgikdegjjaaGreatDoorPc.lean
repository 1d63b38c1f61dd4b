/- What is read of a snapshot's octets is written again the same. -/
import Derived.Test.YtmlebgikdegjjaaGreatDoorPb
import Derived.Test.YtmlebgikdegjjaaGreatDoorVc
namespace Go.Proofs.YtmlebgikdegjjaaGreatDoor.PAll
open Go.RowKit Go.Proofs.YtmlebgikdegjjaaGreatDoorW.PrintWords Go.Proofs.YtmlebgikdegjjaaGreatDoorW.PrintLast Go.Proofs.YtmlebgikdegjjaaGreatDoor.Hd
set_option linter.unusedVariables false
theorem four_back {a b c d : Int} (ha : 0 ≤ a ∧ a < 256) (hb : 0 ≤ b ∧ b < 256) (hc : 0 ≤ c ∧ c < 256) (hd : 0 ≤ d ∧ d < 256) : be4 (val [a,b,c,d]) = [a,b,c,d]:=by
 have e : val [a,b,c,d] = ((a * 256 + b) * 256 + c) * 256 + d:=by simp [val]
 rw [e]
 unfold be4
 have h1 : (((a * 256 + b) * 256 + c) * 256 + d) / 16777216 % 256 = a:=by omega
 have h2 : (((a * 256 + b) * 256 + c) * 256 + d) / 65536 % 256 = b:=by omega
 have h3 : (((a * 256 + b) * 256 + c) * 256 + d) / 256 % 256 = c:=by omega
 have h4 : (((a * 256 + b) * 256 + c) * 256 + d) % 256 = d:=by omega
 rw [h1,h2,h3,h4]
theorem numR_inv {bs r : List Int} {n : Int} (hb : BytesOk bs) (h : numR bs 0 = (n,r,0)) : bs = be4 n ++ r ∧ 0 ≤ n ∧ n ≤ 2147483647:=by
 unfold numR at h
 rw [if_neg (by decide)] at h
 by_cases h4 : bs.length < 4
 ·rw [if_pos h4] at h;cases h
 ·rw [if_neg h4] at h
  by_cases hv : val (bs.take 4) > 2147483647
  ·rw [if_pos hv] at h;cases h
  ·rw [if_neg hv] at h
   injection h with h1 h2
   injection h2 with h2 _
   match bs,h4 with
   | a :: b :: c :: d :: t,_ =>
    have e : (a :: b :: c :: d :: t).take 4 = [a,b,c,d]:=rfl
    have m : ∀ x ∈ [a,b,c,d],0 ≤ x ∧ x < 256:=fun x hx=>hb x (List.mem_of_mem_take (i:=4) (by rw [e];exact hx))
    rw [e] at h1 hv
    have hn:=val_bound 4 [a,b,c,d] rfl m
    refine ⟨?_,by omega,by omega⟩
    rw [← h1,four_back (m a (by simp)) (m b (by simp)) (m c (by simp)) (m d (by simp)),← h2]
    rfl
   | [],h=>exact absurd (by decide) h
   | [a],h=>exact absurd (show 1 < 4 by decide) h
   | [a,b],h=>exact absurd (show 2 < 4 by decide) h
   | [a,b,c],h=>exact absurd (show 3 < 4 by decide) h
theorem bytesN_back {l : List Int} (hb : BytesOk l) : bytesN (strOfNums l) = l:=by
 have e : (strOfNums l).data.toList = l.map fun n=>UInt8.ofNat n.toNat:=by simp [strOfNums]
 unfold bytesN
 rw [e,List.map_map]
 conv=>rhs;rw [← List.map_id l]
 apply List.map_congr_left
 intro x hx
 have h:=hb x hx
 show ((UInt8.ofNat x.toNat).toNat : Int) = x
 rw [UInt8.toNat_ofNat']
 omega
theorem textR_inv {bs r : List Int} {s : ByteArray} {e : Int} (hb : BytesOk bs) (h : textR bs e = (s,r,0)) : e = 0 ∧ bs = textO s ++ r:=by
 have he : e = 0:=by
  by_cases h0 : e = 0
  ·exact h0
  ·have hq : numR bs e = (0,bs,e):=by unfold numR;rw [if_pos h0]
   rw [textR_err hq h0] at h
   injection h with _ h
   injection h with _ h
   all_goals exact absurd h h0
 subst he
 obtain ⟨n,b1,e1,hq⟩ : ∃ n b1 e1,numR bs 0 = (n,b1,e1):=⟨_,_,_,rfl⟩
 by_cases h1 : e1 = 0
 ·subst h1
  obtain ⟨hbs,h0,_⟩:=numR_inv hb hq
  have hb1 : BytesOk b1:=fun x hx=>hb x (by rw [hbs];exact List.mem_append_right _ hx)
  by_cases hn : n ≤ (b1.length : Int)
  ·rw [textR_good hq rfl hn] at h
   injection h with h2 h3
   injection h3 with h3 _
   refine ⟨rfl,?_⟩
   rw [← h2,← h3]
   unfold textO
   have hlen : (b1.take n.toNat).length = n.toNat:=by rw [List.length_take];omega
   rw [strOf_size,hlen,bytesN_back (hb1.take _),show ((n.toNat : Nat) : Int) = n by omega,List.append_assoc,List.take_append_drop]
   exact hbs
  ·rw [textR_short hq rfl (by omega)] at h
   cases h
 ·rw [textR_err hq h1] at h
  injection h with _ h
  injection h with _ h
  all_goals exact absurd h h1
theorem textsL_inv : ∀ (n : Nat) {bs r : List Int} {v : List ByteArray},BytesOk bs → textsL n bs = (v,r,0) → v.length = n ∧ bs = v.flatMap textO ++ r
 | 0,bs,r,v,hb,h=>by
  injection h with h1 h2
  injection h2 with h2 _
  rw [← h1,← h2]
  exact ⟨rfl,rfl⟩
 | n + 1,bs,r,v,hb,h=>by
  rw [textsL_succ] at h
  obtain ⟨s,b1,e1,hq⟩ : ∃ s b1 e1,textR bs 0 = (s,b1,e1):=⟨_,_,_,rfl⟩
  rw [hq] at h
  by_cases h1 : e1 = 0
  ·subst h1
   rw [if_neg (fun h=>h rfl)] at h
   obtain ⟨_,hbs⟩:=textR_inv hb hq
   have hb1 : BytesOk b1:=fun x hx=>hb x (by rw [hbs];exact List.mem_append_right _ hx)
   obtain ⟨v2,r2,e2,hq2⟩ : ∃ v2 r2 e2,textsL n b1 = (v2,r2,e2):=⟨_,_,_,rfl⟩
   dsimp only at h
   rw [hq2] at h
   injection h with a1 a2
   injection a2 with a2 a3
   dsimp only at a1 a2 a3
   rw [a3] at hq2
   obtain ⟨l1,l2⟩:=textsL_inv n hb1 hq2
   rw [← a1,← a2]
   refine ⟨by rw [List.length_cons,l1],?_⟩
   rw [List.flatMap_cons,List.append_assoc,← l2]
   exact hbs
  ·rw [if_pos h1] at h
   injection h with _ h
   injection h with _ h
   all_goals exact absurd h h1
theorem textsR_inv {bs r : List Int} {v : List ByteArray} {e : Int} (hb : BytesOk bs) (h : textsR bs e = (v,r,0)) : e = 0 ∧ bs = be4 (v.length : Int) ++ (v.flatMap textO ++ r):=by
 have he : e = 0:=by
  by_cases h0 : e = 0
  ·exact h0
  ·have hq : numR bs e = (0,bs,e):=by unfold numR;rw [if_pos h0]
   rw [textsR_err hq h0] at h
   injection h with _ h
   injection h with _ h
   all_goals exact absurd h h0
 subst he
 obtain ⟨n,b1,e1,hq⟩ : ∃ n b1 e1,numR bs 0 = (n,b1,e1):=⟨_,_,_,rfl⟩
 by_cases h1 : e1 = 0
 ·subst h1
  obtain ⟨hbs,h0,_⟩:=numR_inv hb hq
  have hb1 : BytesOk b1:=fun x hx=>hb x (by rw [hbs];exact List.mem_append_right _ hx)
  by_cases hn : n > 1000000 ∨ n > (b1.length : Int)
  ·rw [textsR_short hq rfl hn] at h
   cases h
  ·by_cases h3 : (textsL n.toNat b1).2.2 = 0
   ·rw [textsR_good hq rfl hn h3] at h
    injection h with h4 h5
    injection h5 with h5 _
    have h6 : textsL n.toNat b1 = (v,r,0):=by rw [← h4,← h5,← h3]
    obtain ⟨l1,l2⟩:=textsL_inv _ hb1 h6
    refine ⟨rfl,?_⟩
    rw [l1,← l2,show ((n.toNat : Nat) : Int) = n by omega]
    exact hbs
   ·rw [textsR_fell hq rfl hn h3] at h
    injection h with _ h
    injection h with _ h
    all_goals exact absurd h h3
 ·rw [textsR_err hq h1] at h
  injection h with _ h
  injection h with _ h
  all_goals exact absurd h h1
theorem finR_inv {d dv : DV} {b b' : List Int} {e e' : Int} (h : finR d b e = (dv,0,b',e')) : e = 0 ∧ d.right = true ∧ dv = d ∧ b' = b ∧ e' = 0:=by
 unfold finR at h
 by_cases h0 : e = 0
 ·rw [if_neg (fun h=>h h0)] at h
  cases hr : d.right with
  | true =>
   rw [if_pos hr] at h
   injection h with h1 h2
   injection h2 with _ h2
   injection h2 with h2 h3
   exact ⟨h0,rfl,h1.symm,h2.symm,h3.symm.trans h0⟩
  | false =>
   rw [if_neg (by rw [hr];decide)] at h
   injection h with _ h
   injection h with h _
   cases h
 ·rw [if_pos h0] at h
  injection h with _ h
  injection h with h _
  all_goals exact absurd h h0
theorem readR_inv {bs r : List Int} {dv : DV} {e' : Int} (hb : BytesOk bs) (h : readR bs 0 = (dv,0,r,e')) : bs = defS (toS dv) ++ r ∧ e' = 0 ∧ rightB (toS dv) = true:=by
 obtain ⟨kd,b1,e1,q0⟩ : ∃ n b1 e1,numR bs 0 = (n,b1,e1):=⟨_,_,_,rfl⟩
 obtain ⟨c,b2,e2,q1⟩ : ∃ n b1' e1',textR b1 e1 = (n,b1',e1'):=⟨_,_,_,rfl⟩
 obtain ⟨s,b3,e3,q2⟩ : ∃ n b1' e1',textR b2 e2 = (n,b1',e1'):=⟨_,_,_,rfl⟩
 by_cases k1 : kd = 1
 ·obtain ⟨v,b4,e4,q3⟩ : ∃ n b1' e1',textsR b3 e3 = (n,b1',e1'):=⟨_,_,_,rfl⟩
  rw [readR_class q0 k1 q1 q2 q3] at h
  obtain ⟨f0,f1,f2,f3,f4⟩:=finR_inv h
  subst f0
  rw [f2,f3]
  have sub : ∀ {x y z : List Int},BytesOk x → x = y ++ z → BytesOk z:=fun hx e y hy=>hx y (by rw [e];exact List.mem_append_right _ hy)
  have hb1 : e1 = 0 → BytesOk b1:=fun h=>sub hb (numR_inv hb (by rw [q0,h])).1
  have z3 : e3 = 0:=by
   by_cases z : e3 = 0
   ·exact z
   ·have hq : numR b3 e3 = (0,b3,e3):=by unfold numR;rw [if_pos z]
    rw [textsR_err hq z] at q3
    injection q3 with _ q3
    injection q3 with _ q3
    all_goals exact absurd q3 z
  subst z3
  have z2 : e2 = 0:=by
   by_cases z : e2 = 0
   ·exact z
   ·have hq : numR b2 e2 = (0,b2,e2):=by unfold numR;rw [if_pos z]
    rw [textR_err hq z] at q2
    injection q2 with _ q2
    injection q2 with _ q2
    all_goals exact absurd q2 z
  subst z2
  have z1 : e1 = 0:=by
   by_cases z : e1 = 0
   ·exact z
   ·have hq : numR b1 e1 = (0,b1,e1):=by unfold numR;rw [if_pos z]
    rw [textR_err hq z] at q1
    injection q1 with _ q1
    injection q1 with _ q1
    all_goals exact absurd q1 z
  subst z1
  obtain ⟨i0,_,_⟩:=numR_inv hb q0
  have o1:=sub hb i0
  obtain ⟨_,i1⟩:=textR_inv o1 q1
  have o2:=sub o1 i1
  obtain ⟨_,i2⟩:=textR_inv o2 q2
  have o3:=sub o2 i2
  obtain ⟨_,i3⟩:=textsR_inv o3 q3
  refine ⟨?_,f4,f1⟩
  rw [i0,i1,i2,i3,k1]
  show _ = (be4 1 ++ (textO c ++ (textO s ++ (be4 (v.length : Int) ++ v.flatMap textO)))) ++ b4
  simp only [List.append_assoc]
 ·by_cases k2 : kd = 2
  ·obtain ⟨t,b4,e4,q3⟩ : ∃ n b1' e1',textR b3 e3 = (n,b1',e1'):=⟨_,_,_,rfl⟩
   rw [readR_method q0 k2 q1 q2 q3] at h
   obtain ⟨f0,f1,f2,f3,f4⟩:=finR_inv h
   subst f0
   rw [f2,f3]
   have sub : ∀ {x y z : List Int},BytesOk x → x = y ++ z → BytesOk z:=fun hx e y hy=>hx y (by rw [e];exact List.mem_append_right _ hy)
   have up : ∀ {x y : List Int} {n : ByteArray} {e : Int},textR x e = (n,y,0) → e = 0:=fun {x y n e} q=>by
    by_cases z : e = 0
    ·exact z
    ·have hq : numR x e = (0,x,e):=by unfold numR;rw [if_pos z]
     rw [textR_err hq z] at q
     injection q with _ q
     injection q with _ q
     all_goals exact absurd q z
   obtain rfl:=up q3
   obtain rfl:=up q2
   obtain rfl:=up q1
   obtain ⟨i0,_,_⟩:=numR_inv hb q0
   have o1:=sub hb i0
   obtain ⟨_,i1⟩:=textR_inv o1 q1
   have o2:=sub o1 i1
   obtain ⟨_,i2⟩:=textR_inv o2 q2
   have o3:=sub o2 i2
   obtain ⟨_,i3⟩:=textR_inv o3 q3
   refine ⟨?_,f4,f1⟩
   rw [i0,i1,i2,i3,k2]
   show _ = (be4 2 ++ (textO c ++ (textO s ++ textO t))) ++ b4
   simp only [List.append_assoc]
  ·have e : readR bs 0 = finR ⟨kd,⟨#[]⟩,⟨#[]⟩,[],⟨#[]⟩,⟨#[]⟩⟩ b1 e1:=by
    unfold readR
    rw [q0]
    simp only []
    rw [if_neg k1,if_neg k2]
   rw [e] at h
   obtain ⟨_,f1,_⟩:=finR_inv h
   have f1 : rightD kd ⟨#[]⟩ ⟨#[]⟩ [] ⟨#[]⟩ ⟨#[]⟩ = true:=f1
   rcases rightD_kd f1 with z | z
   ·exact absurd z k1
   ·exact absurd z k2
end Go.Proofs.YtmlebgikdegjjaaGreatDoor.PAll
