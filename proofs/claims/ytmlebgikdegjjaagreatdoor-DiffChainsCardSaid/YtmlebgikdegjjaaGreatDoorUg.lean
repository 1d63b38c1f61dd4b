/- Plain laws: the map that is meant, and the reference's lists by rising keys. -/
import Derived.Test.YtmlebgikdegjjaaGreatDoorUc
import Derived.Test.YtmlebgikdegjjaaGreatDoorSd
namespace Go.Proofs.YtmlebgikdegjjaaGreatDoor.Hd
open Go.Maps Go.RowKit Go.Proofs.YtmlebgikdegjjaaGreatDoorW.PrintWords Go.Proofs.YtmlebgikdegjjaaGreatDoorW.PrintLast Go.Proofs.YtmlebgikdegjjaaGreatDoorW.PrintMore Go.Proofs.YtmlebgikdegjjaaGreatDoor.PAll
attribute [local go_sem] max2_int min2_int max_two min_two max_three min_three max_four min_four
set_option linter.unusedVariables false
set_option linter.unusedSimpArgs false
theorem before_less : ∀ a b : List UInt8,bytesBefore a b = Op.bytesLess a b
 | [],[]=>rfl
 | [],_ :: _=>rfl
 | _ :: _,[]=>rfl
 | a :: r,b :: s=>by
  unfold bytesBefore Op.bytesLess
  rw [before_less r s]
theorem before_asymm (a b : List UInt8) (h : bytesBefore a b = true) : bytesBefore b a = false:=by
 cases hb : bytesBefore b a with
 | false=>rfl
 | true =>
  have:=WideShapes.bytes_trans _ _ _ h hb
  rw [WideAt.bytes_irrefl] at this
  cases this
def ltK (a b : ByteArray) : Bool:=bytesBefore a.data.toList b.data.toList
theorem ltK_less (a b : ByteArray) : Op.bytesLess a.toList b.toList = ltK a b:=by
 unfold ltK
 rw [before_less,Lib.toList_data,Lib.toList_data]
theorem data_inj {a b : ByteArray} (h : a.data.toList = b.data.toList) : a = b:=by
 obtain ⟨⟨x⟩⟩:=a
 obtain ⟨⟨y⟩⟩:=b
 have h : x = y:=h
 rw [h]
theorem ltK_irrefl (a : ByteArray) : ltK a a = false:=WideAt.bytes_irrefl _
theorem ltK_asymm {a b : ByteArray} (h : ltK a b = true) : ltK b a = false:=before_asymm _ _ h
theorem ltK_trans {a b c : ByteArray} (h : ltK a b = true) (k : ltK b c = true) : ltK a c = true:=WideShapes.bytes_trans _ _ _ h k
theorem ltK_three (a b : ByteArray) : ltK a b = true ∨ a = b ∨ ltK b a = true:=by
 by_cases h : a.data.toList = b.data.toList
 ·exact Or.inr (Or.inl (data_inj h))
 ·rcases WideAt.bytes_total _ _ h with h | h
  ·exact Or.inl h
  ·exact Or.inr (Or.inr h)
theorem ltK_ne {a b : ByteArray} (h : ltK a b = true) : a ≠ b:=fun e=>by
 subst e
 rw [ltK_irrefl] at h
 cases h
theorem same_KL (a b : ByteArray) : (KL a).sameKey (KL b) = decide (a = b):=by
 show (a.data.toList == b.data.toList) = _
 by_cases h : a = b
 ·rw [h,decide_eq_true rfl]
  exact beq_self_eq_true _
 ·rw [decide_eq_false h]
  exact beq_eq_false_iff_ne.mpr fun e=>h (data_inj e)
section
variable (key : S34 → ByteArray)
def putL (d : S34) : List S34 → Bool → List S34
 | [],dn=>if dn = true then [] else [d]
 | x :: l,dn=>(if (!dn && !(ltK (key x) (key d))) = true then [d] else []) ++ ((if key x = key d then [] else [x]) ++ putL d l (dn || !(ltK (key x) (key d))))
def dropL (ks : ByteArray) (l : List S34) : List S34:=l.filter fun x=>!(decide (key x = ks))
def hasL (ks : ByteArray) (l : List S34) : Bool:=l.any fun x=>decide (key x = ks)
def newL : List S34 → List S34 → List S34 × Int
 | [],out=>(out,0)
 | d :: r,out=>if (key d).size = 0 then ([],31) else if hasL key (key d) out = true then ([],45) else newL r (putL key d out false)
def Ris (l : List S34) : Prop:=l.Pairwise fun x y=>ltK (key x) (key y) = true
def entK (x : S34) : Lit × DataW S34:=(KL (key x),.held x)
def mapK (l : List S34) : DataW S34:=.map (l.map (entK key))
variable {key}
theorem vals_mapK (l : List S34) : valsM (mapK key l) = l:=by
 show ((l.map (entK key)).map fun p=>heldOf p.2) = l
 rw [List.map_map]
 exact List.map_id l
theorem size_mapK (l : List S34) : Maps.size (mapK key l) = l.length:=by
 show (l.map (entK key)).length = _
 rw [List.length_map]
theorem putL_above {d : S34} : ∀ {l : List S34},(∀ y ∈ l,ltK (key d) (key y) = true) → putL key d l true = l
 | [],_=>rfl
 | x :: l,h=>by
  unfold putL
  rw [if_neg (by simp),if_neg (fun e=>ltK_ne (h x (List.mem_cons_self ..)) e.symm),Bool.true_or,putL_above fun y hy=>h y (List.mem_cons_of_mem _ hy)]
  rfl
theorem filter_above {d : S34} : ∀ {l : List S34},(∀ y ∈ l,ltK (key d) (key y) = true) → ((l.map (entK key)).filter fun p=>!p.1.sameKey (KL (key d))) = l.map (entK key)
 | [],_=>rfl
 | x :: l,h=>by
  rw [List.map_cons,List.filter_cons_of_pos (by
   show (!(KL (key x)).sameKey (KL (key d))) = true
   rw [same_KL,decide_eq_false fun e=>ltK_ne (h x (List.mem_cons_self ..)) e.symm]
   rfl),filter_above fun y hy=>h y (List.mem_cons_of_mem _ hy)]
theorem insert_above {d : S34} : ∀ {l : List S34},(∀ y ∈ l,ltK (key d) (key y) = true) → DataW.insert (entK key d) (l.map (entK key)) = (d :: l).map (entK key)
 | [],_=>rfl
 | x :: l,h=>by
  rw [List.map_cons]
  unfold DataW.insert
  rw [if_pos (show (entK key d).1.before (entK key x).1 = true from h x (List.mem_cons_self ..))]
  rfl
theorem put_ent (d : S34) : ∀ {l : List S34},Ris key l → DataW.insert (entK key d) ((l.map (entK key)).filter fun p=>!p.1.sameKey (KL (key d))) = (putL key d l false).map (entK key)
 | [],_=>rfl
 | x :: l,h=>by
  obtain ⟨hx,hl⟩:=List.pairwise_cons.1 h
  unfold putL
  rw [List.map_cons]
  rcases ltK_three (key d) (key x) with h1 | h1 | h1
  ·have hab : ∀ y ∈ x :: l,ltK (key d) (key y) = true:=fun y hy=>by
    rcases List.mem_cons.1 hy with rfl | hy
    ·exact h1
    ·exact ltK_trans h1 (hx y hy)
   rw [← List.map_cons,filter_above hab,insert_above hab,ltK_asymm h1,if_pos (by rfl),if_neg (fun e=>ltK_ne h1 e.symm),Bool.not_false,Bool.or_true,putL_above fun y hy=>hab y (List.mem_cons_of_mem _ hy)]
   rfl
  ·have hab : ∀ y ∈ l,ltK (key d) (key y) = true:=fun y hy=>by rw [h1];exact hx y hy
   rw [List.filter_cons_of_neg (by
    show ¬ (!(KL (key x)).sameKey (KL (key d))) = true
    rw [same_KL,decide_eq_true h1.symm]
    simp),filter_above hab,insert_above hab,← h1,ltK_irrefl,if_pos (by rfl),if_pos rfl,Bool.not_false,Bool.or_true,putL_above hab]
   rfl
  ·rw [List.filter_cons_of_pos (by
    show (!(KL (key x)).sameKey (KL (key d))) = true
    rw [same_KL,decide_eq_false (ltK_ne h1)]
    rfl)]
   unfold DataW.insert
   rw [if_neg (by
    show ¬ ltK (key d) (key x) = true
    rw [ltK_asymm h1]
    simp),put_ent d hl,h1,if_neg (by simp),if_neg (ltK_ne h1),Bool.not_true,Bool.or_false]
   rfl
theorem put_mapK (d : S34) {l : List S34} (h : Ris key l) : (mapK key l).put (KL (key d)) (.held d) = mapK key (putL key d l false):=congrArg DataW.map (put_ent d h)
theorem putL_mem (d : S34) : ∀ {l : List S34} {b : Bool} {y : S34},y ∈ putL key d l b → y = d ∨ y ∈ l
 | [],true,y,h=>by cases h
 | [],false,y,h=>Or.inl (List.mem_singleton.1 h)
 | x :: l,b,y,h=>by
  unfold putL at h
  rcases List.mem_append.1 h with h | h
  ·split at h
   ·exact Or.inl (List.mem_singleton.1 h)
   ·cases h
  ·rcases List.mem_append.1 h with h | h
   ·split at h
    ·cases h
    ·exact Or.inr (List.mem_cons.2 (Or.inl (List.mem_singleton.1 h)))
   ·rcases putL_mem d h with h | h
    ·exact Or.inl h
    ·exact Or.inr (List.mem_cons_of_mem _ h)
theorem putL_len (d : S34) : ∀ (l : List S34) (b : Bool),(putL key d l b).length ≤ l.length + (if b = true then 0 else 1)
 | [],true=>Nat.le_refl _
 | [],false=>Nat.le_refl _
 | x :: l,b=>by
  unfold putL
  have ih:=putL_len d l (b || !(ltK (key x) (key d)))
  rw [List.length_append,List.length_append,List.length_cons]
  have h2 : (if key x = key d then ([] : List S34) else [x]).length ≤ 1:=by split <;> simp
  cases b <;> cases hk : ltK (key x) (key d) <;> simp [hk] at ih ⊢ <;> omega
theorem putL_ris (d : S34) : ∀ {l : List S34},Ris key l → Ris key (putL key d l false)
 | [],_=>List.pairwise_singleton _ _
 | x :: l,h=>by
  obtain ⟨hx,hl⟩:=List.pairwise_cons.1 h
  unfold putL
  rcases ltK_three (key d) (key x) with h1 | h1 | h1
  ·have hab : ∀ y ∈ x :: l,ltK (key d) (key y) = true:=fun y hy=>by
    rcases List.mem_cons.1 hy with rfl | hy
    ·exact h1
    ·exact ltK_trans h1 (hx y hy)
   rw [ltK_asymm h1,if_pos (by rfl),if_neg (fun e=>ltK_ne h1 e.symm),Bool.not_false,Bool.or_true,putL_above fun y hy=>hab y (List.mem_cons_of_mem _ hy)]
   exact List.pairwise_cons.2 ⟨hab,h⟩
  ·have hab : ∀ y ∈ l,ltK (key d) (key y) = true:=fun y hy=>by rw [h1];exact hx y hy
   rw [← h1,ltK_irrefl,if_pos (by rfl),if_pos rfl,Bool.not_false,Bool.or_true,putL_above hab]
   exact List.pairwise_cons.2 ⟨hab,hl⟩
  ·rw [h1,if_neg (by simp),if_neg (ltK_ne h1),Bool.not_true,Bool.or_false]
   refine List.pairwise_cons.2 ⟨fun y hy=>?_,putL_ris d hl⟩
   rcases putL_mem d hy with rfl | hy
   ·exact h1
   ·exact hx y hy
theorem del_mapK (ks : ByteArray) (l : List S34) : (mapK key l).del (KL ks) = mapK key (dropL key ks l):=by
 refine congrArg DataW.map ?_
 show (l.map (entK key)).filter _ = (l.filter _).map (entK key)
 rw [List.filter_map]
 refine congrArg _ (List.filter_congr fun x _=>?_)
 show (!(KL (key x)).sameKey (KL ks)) = _
 rw [same_KL]
theorem dropL_ris (ks : ByteArray) {l : List S34} (h : Ris key l) : Ris key (dropL key ks l):=List.Pairwise.filter _ h
theorem dropL_len (ks : ByteArray) (l : List S34) : (dropL key ks l).length ≤ l.length:=List.length_filter_le _ _
theorem has_mapK (ks : ByteArray) (l : List S34) : Maps.has (mapK key l) (KL ks) = hasL key ks l:=by
 show ((l.map (entK key)).any fun p=>p.1.sameKey (KL ks)) = l.any _
 rw [List.any_map]
 refine congrArg _ (funext fun x=>?_)
 exact same_KL _ _
theorem new_mapK : ∀ (l : List S34) {out : List S34},Ris key out → (newGo key l (mapK key out)).2 = (newL key l out).2 ∧ ((newL key l out).2 = 0 → (newGo key l (mapK key out)).1 = mapK key (newL key l out).1 ∧ Ris key (newL key l out).1) ∧ ((newL key l out).2 ≠ 0 → (newL key l out).1 = [])
 | [],out,h=>⟨rfl,fun _=>⟨rfl,h⟩,fun e=>absurd rfl e⟩
 | d :: l,out,h=>by
  unfold newGo newL
  by_cases h0 : (key d).size = 0
  ·rw [if_pos h0,if_pos h0]
   exact ⟨rfl,fun e=>absurd e (by decide),fun _=>rfl⟩
  ·rw [if_neg h0,if_neg h0,has_mapK]
   by_cases h1 : hasL key (key d) out = true
   ·rw [if_pos h1,if_pos h1]
    exact ⟨rfl,fun e=>absurd e (by decide),fun _=>rfl⟩
   ·rw [if_neg h1,if_neg h1,put_mapK d h]
    exact new_mapK l (putL_ris d h)
theorem newL_len : ∀ (l out : List S34),(newL key l out).1.length ≤ out.length + l.length
 | [],out=>Nat.le_refl _
 | d :: l,out=>by
  unfold newL
  split
  ·exact Nat.zero_le _
  ·split
   ·exact Nat.zero_le _
   ·have h1:=newL_len l (putL key d out false)
    have h2:=putL_len (key:=key) d out false
    rw [if_neg (by simp)] at h2
    rw [List.length_cons]
    omega
theorem newL_mem : ∀ (l out : List S34) (y : S34),y ∈ (newL key l out).1 → y ∈ l ∨ y ∈ out
 | [],out,y,h=>Or.inr h
 | d :: l,out,y,h=>by
  unfold newL at h
  split at h
  ·cases h
  ·split at h
   ·cases h
   ·rcases newL_mem l _ y h with h | h
    ·exact Or.inl (List.mem_cons_of_mem _ h)
    ·rcases putL_mem d h with rfl | h
     ·exact Or.inl (List.mem_cons_self ..)
     ·exact Or.inr h
end
end Go.Proofs.YtmlebgikdegjjaaGreatDoor.Hd
