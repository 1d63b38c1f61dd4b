/- What is written of a snapshot is read again; and tells it. -/
import Derived.Test.YtmlebgikdegjjaaGreatDoorPw
import Derived.Test.YtmlebgikdegjjaaGreatDoorUy
namespace Go.Proofs.YtmlebgikdegjjaaGreatDoor.PAll
open Go.RowKit Go.Proofs.YtmlebgikdegjjaaGreatDoorW.PrintWords Go.Proofs.YtmlebgikdegjjaaGreatDoorW.PrintLast Go.Proofs.YtmlebgikdegjjaaGreatDoor.Hd
set_option linter.unusedVariables false
theorem numR_back (n : Int) (r : List Int) (h0 : 0 ≤ n) (h1 : n ≤ 2147483647) : numR (be4 n ++ r) 0 = (n,r,0):=by
 have hv : val ((be4 n ++ r).take 4) = n:=by
  show ((((0 * 256 + n / 16777216 % 256) * 256 + n / 65536 % 256) * 256 + n / 256 % 256) * 256 + n % 256) = n
  omega
 unfold numR
 rw [if_neg (by decide),if_neg (by rw [List.length_append];show ¬ (4 + r.length < 4);omega),if_neg (by rw [hv];omega),hv]
 rfl
theorem textR_back (s : ByteArray) (r : List Int) (hs : s.size ≤ 2147483647) : textR (textO s ++ r) 0 = (s,r,0):=by
 have hq : numR (textO s ++ r) 0 = ((s.size : Int),bytesN s ++ r,0):=by
  rw [textO,List.append_assoc]
  exact numR_back _ _ (by omega) (by omega)
 have hb:=bytesN_len s
 rw [textR_good hq rfl (by rw [List.length_append];omega)]
 have e : ((s.size : Int)).toNat = (bytesN s).length:=by omega
 rw [e,List.take_left,List.drop_left,strOf_bytesN]
theorem textsL_back : ∀ (v : List ByteArray) (r : List Int),(∀ x ∈ v,x.size ≤ 2147483647) → textsL v.length (v.flatMap textO ++ r) = (v,r,0)
 | [],r,_=>rfl
 | x :: v,r,h=>by
  have e:=textR_back x (v.flatMap textO ++ r) (h x List.mem_cons_self)
  rw [List.flatMap_cons,List.append_assoc,List.length_cons,textsL_succ,e,if_neg (fun h=>h rfl)]
  have ih:=textsL_back v r (fun y hy=>h y (List.mem_cons_of_mem _ hy))
  simp only []
  rw [ih]
theorem listO_ge : ∀ (v : List ByteArray),v.length ≤ (v.flatMap textO).length
 | []=>Nat.le_refl _
 | x :: v=>by
  rw [List.flatMap_cons,List.length_append,textO_len,List.length_cons]
  have:=listO_ge v
  omega
theorem textsR_back (v : List ByteArray) (r : List Int) (hv : v.length ≤ 1000000) (hx : ∀ x ∈ v,x.size ≤ 2147483647) : textsR (be4 (v.length : Int) ++ (v.flatMap textO ++ r)) 0 = (v,r,0):=by
 have hq:=numR_back (v.length : Int) (v.flatMap textO ++ r) (by omega) (by omega)
 have hb:=textsL_back v r hx
 have hg:=listO_ge v
 have e : ((v.length : Int)).toNat = v.length:=by omega
 rw [textsR_good hq rfl (by rw [List.length_append];omega) (by rw [e,hb]),e,hb]
theorem rightD_one {c s : ByteArray} {v : List ByteArray} {l t : ByteArray} (h : rightD 1 c s v l t = true) : l = noB ∧ t = noB:=by
 unfold rightD at h
 rw [if_pos rfl] at h
 simp only [Bool.and_eq_true,decide_eq_true_eq] at h
 exact ⟨h.1.2,h.2⟩
theorem rightD_two {c s : ByteArray} {v : List ByteArray} {l t : ByteArray} (h : rightD 2 c s v l t = true) : s = noB ∧ v = []:=by
 unfold rightD at h
 rw [if_neg (by decide),if_pos rfl] at h
 simp only [Bool.and_eq_true,decide_eq_true_eq] at h
 exact ⟨h.1.2,List.eq_nil_of_length_eq_zero h.2⟩
theorem be4_ok (n : Int) : BytesOk (be4 n):=by
 intro x hx
 simp only [be4,List.mem_cons,List.not_mem_nil,or_false] at hx
 omega
theorem BytesOk.app {a b : List Int} (h : BytesOk a) (k : BytesOk b) : BytesOk (a ++ b):=fun x hx=>(List.mem_append.1 hx).elim (h x) (k x)
theorem textO_ok (s : ByteArray) : BytesOk (textO s):=by
 refine BytesOk.app (be4_ok _) (fun x hx=>?_)
 obtain ⟨b,_,rfl⟩:=List.mem_map.1 hx
 have:=b.toNat_lt
 exact ⟨by omega,by omega⟩
theorem listO_ok (v : List ByteArray) : BytesOk (v.flatMap textO):=fun x hx=>by
 obtain ⟨s,_,h⟩:=List.mem_flatMap.1 hx
 exact textO_ok s x h
theorem defO_ok (kd : Int) (c s : ByteArray) (v : List ByteArray) (l t : ByteArray) : BytesOk (defO kd c s v l t):=by
 unfold defO
 refine BytesOk.app (be4_ok _) (BytesOk.app (textO_ok _) ?_)
 split
 ·exact BytesOk.app (textO_ok _) (BytesOk.app (be4_ok _) (listO_ok _))
 ·exact BytesOk.app (textO_ok _) (textO_ok _)
theorem readS_back {d : SD} (h : smallB d = true) (hr : rightB d = true) (r : List Int) : readR (defS d ++ r) 0 = (⟨d.f0,d.f1,d.f2,d.f3,d.f4,d.f5⟩,0,r,0):=by
 obtain ⟨a1,a2,a3,a4,a5,a6⟩:=smallD_of h
 obtain ⟨kd,c,s,v,l,t⟩:=d
 have hr : rightD kd c s v l t = true:=hr
 show readR (defO kd c s v l t ++ r) 0 = (⟨kd,c,s,v,l,t⟩,0,r,0)
 dsimp only at a1 a2 a3 a4 a5 a6
 rcases rightD_kd hr with hk | hk
 ·subst hk
  obtain ⟨rfl,rfl⟩:=rightD_one hr
  have h3:=textsR_back v r (by omega) (fun x h=>by have:=a6 x h;omega)
  have e : defO 1 c s v noB noB ++ r = be4 1 ++ (textO c ++ (textO s ++ (be4 (v.length : Int) ++ (v.flatMap textO ++ r)))):=by
   show (be4 1 ++ (textO c ++ (textO s ++ (be4 (v.length : Int) ++ v.flatMap textO)))) ++ r = _
   simp only [List.append_assoc]
  rw [e,readR_class (numR_back 1 _ (by decide) (by decide)) rfl (textR_back c _ (by omega)) (textR_back s _ (by omega)) h3]
  exact finR_good rfl hr
 ·subst hk
  obtain ⟨rfl,rfl⟩:=rightD_two hr
  have h3:=textR_back t r (by omega)
  have e : defO 2 c noB [] l t ++ r = be4 2 ++ (textO c ++ (textO l ++ (textO t ++ r))):=by
   show (be4 2 ++ (textO c ++ (textO l ++ textO t))) ++ r = _
   simp only [List.append_assoc]
  rw [e,readR_method (numR_back 2 _ (by decide) (by decide)) rfl (textR_back c _ (by omega)) (textR_back l _ (by omega)) h3]
  exact finR_good rfl hr
theorem defS_nine {d : SD} (h : smallB d = true) : (defS d).length ≤ 9000:=by
 obtain ⟨a1,a2,a3,a4,a5,a6⟩:=smallD_of h
 have h:=listO_small d.f3 a6
 have b4 : ∀ n,(be4 n).length = 4:=fun _=>rfl
 unfold defS defO
 rw [List.length_append,List.length_append,b4,textO_len]
 split
 ·rw [List.length_append,List.length_append,b4,textO_len];omega
 ·rw [List.length_append,textO_len,textO_len];omega
theorem snap_len : ∀ (l : List SD),(∀ d ∈ l,smallB d = true) → (l.flatMap defS).length ≤ l.length * 9000
 | [],_=>Nat.le_refl _
 | x :: l,h=>by
  have h1:=defS_nine (h x (List.mem_cons_self ..))
  have h2:=snap_len l fun d hd=>h d (List.mem_cons_of_mem _ hd)
  rw [List.flatMap_cons,List.length_append,List.length_cons,Nat.succ_mul]
  omega
theorem flat_ok (l : List SD) : BytesOk (l.flatMap defS):=fun x hx=>by
 obtain ⟨d,_,h⟩:=List.mem_flatMap.1 hx
 exact defO_ok _ _ _ _ _ _ x h
theorem snap_ok (l : List SD) : BytesOk (snapO l):=BytesOk.app (be4_ok _) (flat_ok l)
theorem flat_inj : ∀ (a b : List SD),(∀ d ∈ a,smallB d = true ∧ rightB d = true) → (∀ d ∈ b,smallB d = true ∧ rightB d = true) → a.length = b.length → a.flatMap defS = b.flatMap defS → a = b
 | [],[],_,_,_,_=>rfl
 | [],_ :: _,_,_,h,_=>by cases h
 | _ :: _,[],_,_,h,_=>by cases h
 | x :: a,y :: b,ha,hb,hl,h=>by
  rw [List.flatMap_cons,List.flatMap_cons] at h
  have h1:=readS_back (ha x (List.mem_cons_self ..)).1 (ha x (List.mem_cons_self ..)).2 (a.flatMap defS)
  have h2:=readS_back (hb y (List.mem_cons_self ..)).1 (hb y (List.mem_cons_self ..)).2 (b.flatMap defS)
  rw [h,h2] at h1
  have e1:=congrArg (fun p=>p.1) h1
  have e2:=congrArg (fun p=>p.2.2.1) h1
  have hxy : x = y:=by
   injection e1 with q0 q1 q2 q3 q4 q5
   obtain ⟨x0,x1,x2,x3,x4,x5⟩:=x
   obtain ⟨y0,y1,y2,y3,y4,y5⟩:=y
   dsimp only at q0 q1 q2 q3 q4 q5
   subst q0 q1 q2 q3 q4 q5
   rfl
  rw [hxy,flat_inj a b (fun d hd=>ha d (List.mem_cons_of_mem _ hd)) (fun d hd=>hb d (List.mem_cons_of_mem _ hd)) (by rw [List.length_cons,List.length_cons] at hl;omega) e2.symm]
theorem snap_inj {a b : List SD} (ha : ∀ d ∈ a,smallB d = true ∧ rightB d = true) (hb : ∀ d ∈ b,smallB d = true ∧ rightB d = true) (la : a.length ≤ 100) (lb : b.length ≤ 100) (h : snapO a = snapO b) : a = b:=by
 have h1:=numR_back (a.length : Int) (a.flatMap defS) (by omega) (by omega)
 have h2:=numR_back (b.length : Int) (b.flatMap defS) (by omega) (by omega)
 have h : be4 (a.length : Int) ++ a.flatMap defS = be4 (b.length : Int) ++ b.flatMap defS:=h
 rw [h,h2] at h1
 have e1:=congrArg (fun p=>p.1) h1
 have e2:=congrArg (fun p=>p.2.1) h1
 dsimp only at e1 e2
 exact flat_inj a b ha hb (by omega) e2.symm
theorem strOf_inj {a b : List Int} (ha : BytesOk a) (hb : BytesOk b) (h : strOfNums a = strOfNums b) : a = b:=by
 have h1 : (strOfNums a).data.toList = (strOfNums b).data.toList:=by rw [h]
 have e : ∀ l : List Int,(strOfNums l).data.toList = l.map fun n=>UInt8.ofNat n.toNat:=fun l=>by simp [strOfNums]
 rw [e,e] at h1
 clear h e
 induction a generalizing b with
 | nil =>
  cases b with
  | nil=>rfl
  | cons y b=>cases h1
 | cons x a ih =>
  cases b with
  | nil=>cases h1
  | cons y b =>
   injection h1 with h2 h3
   have hx:=ha x (List.mem_cons_self ..)
   have hy:=hb y (List.mem_cons_self ..)
   have h4:=congrArg UInt8.toNat h2
   rw [UInt8.toNat_ofNat',UInt8.toNat_ofNat'] at h4
   have hxy : x = y:=by omega
   rw [hxy,ih (fun z hz=>ha z (List.mem_cons_of_mem _ hz)) (fun z hz=>hb z (List.mem_cons_of_mem _ hz)) h3]
theorem smS_eq {x y : SD} (h : smS x y = true) : x = y:=by
 unfold smS sameD at h
 simp only [Bool.and_eq_true,decide_eq_true_eq] at h
 obtain ⟨⟨⟨⟨⟨h0,h1⟩,h2⟩,h3⟩,h4⟩,h5⟩:=h
 obtain ⟨x0,x1,x2,x3,x4,x5⟩:=x
 obtain ⟨y0,y1,y2,y3,y4,y5⟩:=y
 dsimp only at h0 h1 h2 h3 h4 h5
 subst h0 h1 h2 h3 h4 h5
 rfl
section
variable {key : SD → ByteArray}
theorem ris_sub : ∀ {a b : List SD},Ris key a → Ris key b → (∀ z ∈ a,z ∈ b) → a.length ≤ b.length
 | [],_,_,_,_=>Nat.zero_le _
 | x :: a,[],_,_,h=>by cases h x (List.mem_cons_self ..)
 | x :: a,y :: b,ha,hb,h=>by
  obtain ⟨ha1,ha2⟩:=List.pairwise_cons.1 ha
  obtain ⟨hb1,hb2⟩:=List.pairwise_cons.1 hb
  rcases List.mem_cons.1 (h x (List.mem_cons_self ..)) with hx | hx
  ·have:=ris_sub ha2 hb2 (fun z hz=>by
    rcases List.mem_cons.1 (h z (List.mem_cons_of_mem _ hz)) with hz2 | hz2
    ·have:=ha1 z hz
     rw [hz2,← hx,ltK_irrefl] at this
     cases this
    ·exact hz2)
   rw [List.length_cons,List.length_cons]
   omega
  ·have:=ris_sub ha hb2 (fun z hz=>by
    rcases List.mem_cons.1 (h z hz) with hz2 | hz2
    ·rcases List.mem_cons.1 hz with hz3 | hz3
     ·rw [hz3];exact hx
     ·have h1:=ltK_trans (hb1 x hx) (ha1 z hz3)
      rw [hz2,ltK_irrefl] at h1
      cases h1
    ·exact hz2)
   rw [List.length_cons (a:=y)]
   omega
theorem ris_same : ∀ {a b : List SD},Ris key a → Ris key b → (∀ z ∈ a,z ∈ b) → a.length = b.length → a = b
 | [],[],_,_,_,_=>rfl
 | [],_ :: _,_,_,_,h=>by cases h
 | x :: a,[],_,_,h,_=>by cases h x (List.mem_cons_self ..)
 | x :: a,y :: b,ha,hb,h,hl=>by
  obtain ⟨ha1,ha2⟩:=List.pairwise_cons.1 ha
  obtain ⟨hb1,hb2⟩:=List.pairwise_cons.1 hb
  rcases List.mem_cons.1 (h x (List.mem_cons_self ..)) with hx | hx
  ·rw [hx,ris_same ha2 hb2 (fun z hz=>by
    rcases List.mem_cons.1 (h z (List.mem_cons_of_mem _ hz)) with hz2 | hz2
    ·have:=ha1 z hz
     rw [hz2,← hx,ltK_irrefl] at this
     cases this
    ·exact hz2) (by rw [List.length_cons,List.length_cons] at hl;omega)]
  ·have:=ris_sub ha hb2 (fun z hz=>by
    rcases List.mem_cons.1 (h z hz) with hz2 | hz2
    ·rcases List.mem_cons.1 hz with hz3 | hz3
     ·rw [hz3];exact hx
     ·have h1:=ltK_trans (hb1 x hx) (ha1 z hz3)
      rw [hz2,ltK_irrefl] at h1
      cases h1
    ·exact hz2)
   rw [List.length_cons] at this hl
   rw [List.length_cons] at hl
   omega
open Classical in
theorem equal_iff {a b : List SD} (ha : Ris key a) (hb : Ris key b) : equalM smS (mapK key a) (mapK key b) = decide (a = b):=by
 by_cases h : a = b
 ·subst h
  rw [decide_eq_true rfl]
  unfold equalM mapK Lib.equalFuncD
  rw [decide_eq_true rfl,Bool.true_and]
  refine List.all_eq_true.2 fun p hp=>?_
  obtain ⟨x,hx,rfl⟩:=List.mem_map.1 hp
  obtain ⟨i,hi,rfl⟩:=List.getElem_of_mem hx
  have h1:=at_mapK (z:=.nil) ha hi
  have h2 : Go.Maps.has (mapK key a) (KL (key a[i])) = true:=by
   rw [has_mapK]
   exact List.any_eq_true.2 ⟨_,hx,decide_eq_true rfl⟩
  show (Go.Maps.has (mapK key a) (KL (key a[i])) && eqS smS (.held a[i]) ((mapK key a).atKey (KL (key a[i])) .nil)) = true
  rw [h2,h1,Bool.true_and]
  exact smS_self _
 ·rw [decide_eq_false h]
  cases he : equalM smS (mapK key a) (mapK key b) with
  | false=>rfl
  | true =>
   refine absurd (ris_same ha hb ?_ ?_) h
   ·intro z hz
    unfold equalM mapK Lib.equalFuncD at he
    obtain ⟨_,h2⟩:=Bool.and_eq_true_iff.1 he
    have h3:=List.all_eq_true.1 h2 (entK key z) (List.mem_map.2 ⟨z,hz,rfl⟩)
    obtain ⟨h4,h5⟩:=Bool.and_eq_true_iff.1 h3
    have h6 : hasL key (key z) b = true:=by rw [← has_mapK];exact h4
    obtain ⟨y,hy,hk⟩:=List.any_eq_true.1 h6
    obtain ⟨i,hi,rfl⟩:=List.getElem_of_mem hy
    have hk:=of_decide_eq_true hk
    have h7 : eqS smS (.held z) ((mapK key b).atKey (KL (key z)) .nil) = true:=h5
    rw [← hk,at_mapK hb hi] at h7
    have h8 : smS z b[i] = true:=h7
    rw [smS_eq h8]
    exact List.getElem_mem hi
   ·unfold equalM mapK Lib.equalFuncD at he
    obtain ⟨h1,_⟩:=Bool.and_eq_true_iff.1 he
    have h2 : Go.Maps.size (mapK key a) = Go.Maps.size (mapK key b):=of_decide_eq_true h1
    rw [size_mapK,size_mapK] at h2
    exact h2
end
end Go.Proofs.YtmlebgikdegjjaaGreatDoor.PAll
