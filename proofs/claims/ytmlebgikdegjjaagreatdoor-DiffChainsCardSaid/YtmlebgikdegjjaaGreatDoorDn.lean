/- Plain laws: patches between lists of definitions by rising keys. -/
import Derived.Test.YtmlebgikdegjjaaGreatDoorDk
namespace Go.Proofs.YtmlebgikdegjjaaGreatDoor.Hd
open Go.Maps Go.RowKit Go.Proofs.YtmlebgikdegjjaaGreatDoorW.PrintWords Go.Proofs.YtmlebgikdegjjaaGreatDoorW.PrintLast Go.Proofs.YtmlebgikdegjjaaGreatDoorW.PrintMore Go.Proofs.YtmlebgikdegjjaaGreatDoor.PAll
attribute [local go_sem] max2_int min2_int max_two min_two max_three min_three max_four min_four
set_option linter.unusedVariables false
set_option linter.unusedSimpArgs false
section
variable {key : S34 → ByteArray}
theorem mem_put (d : S34) : ∀ {l : List S34} {b : Bool} {y : S34},y ∈ putL key d l b ↔ (b = false ∧ y = d) ∨ (y ∈ l ∧ key y ≠ key d)
 | [],true,y=>⟨fun h=>(by cases h),fun h=>by rcases h with ⟨h,_⟩ | ⟨h,_⟩ <;> cases h⟩
 | [],false,y=>⟨fun h=>Or.inl ⟨rfl,List.mem_singleton.1 h⟩,fun h=>by
  rcases h with ⟨_,h⟩ | ⟨h,_⟩
  ·exact List.mem_singleton.2 h
  ·cases h⟩
 | x :: l,b,y=>by
  unfold putL
  rw [List.mem_append,List.mem_append,mem_put d (l:=l),List.mem_cons]
  have hP : y ∈ (if (!b && !(ltK (key x) (key d))) = true then [d] else []) ↔ (!b && !(ltK (key x) (key d))) = true ∧ y = d:=by
   split
   next h=>rw [List.mem_singleton];exact ⟨fun e=>⟨h,e⟩,fun e=>e.2⟩
   next h=>exact ⟨fun e=>(by cases e),fun e=>absurd e.1 h⟩
  have hQ : y ∈ (if key x = key d then ([] : List S34) else [x]) ↔ key x ≠ key d ∧ y = x:=by
   split
   next h=>exact ⟨fun e=>(by cases e),fun e=>absurd h e.1⟩
   next h=>rw [List.mem_singleton];exact ⟨fun e=>⟨h,e⟩,fun e=>e.2⟩
  rw [hP,hQ]
  constructor
  ·rintro (⟨h,e⟩ | ⟨h,e⟩ | ⟨h,e⟩ | ⟨h,e⟩)
   ·cases b
    ·exact Or.inl ⟨rfl,e⟩
    ·cases h
   ·exact Or.inr ⟨Or.inl e,by rw [e];exact h⟩
   ·cases b
    ·exact Or.inl ⟨rfl,e⟩
    ·cases h
   ·exact Or.inr ⟨Or.inr h,e⟩
  ·rintro (⟨h,e⟩ | ⟨h | h,e⟩)
   ·subst h
    cases hl : ltK (key x) (key d) with
    | true=>exact Or.inr (Or.inr (Or.inl ⟨rfl,e⟩))
    | false=>exact Or.inl ⟨rfl,e⟩
   ·subst h
    exact Or.inr (Or.inl ⟨e,rfl⟩)
   ·exact Or.inr (Or.inr (Or.inr ⟨h,e⟩))
theorem mem_drop {s : ByteArray} {l : List S34} {y : S34} : y ∈ dropL key s l ↔ y ∈ l ∧ key y ≠ s:=by
 unfold dropL
 rw [List.mem_filter]
 simp
theorem ris_inj {l : List S34} (h : Ris key l) {x y : S34} (hx : x ∈ l) (hy : y ∈ l) (e : key x = key y) : x = y:=by
 induction l with
 | nil=>cases hx
 | cons a l ih =>
  obtain ⟨ha,hl⟩:=List.pairwise_cons.1 h
  rcases List.mem_cons.1 hx with h1 | h1
  ·rcases List.mem_cons.1 hy with h2 | h2
   ·rw [h1,h2]
   ·rw [h1] at e
    exact absurd e (ltK_ne (ha y h2))
  ·rcases List.mem_cons.1 hy with h2 | h2
   ·rw [h2] at e
    exact absurd e.symm (ltK_ne (ha x h1))
   ·exact ih hl h1 h2
end
theorem rising_ext {α : Type} (g : α → ByteArray) : ∀ {l m : List α},(l.Pairwise fun x y=>ltK (g x) (g y) = true) → (m.Pairwise fun x y=>ltK (g x) (g y) = true) → (∀ y,y ∈ l ↔ y ∈ m) → l = m
 | [],[],_,_,_=>rfl
 | [],y :: m,_,_,h=>by
  have:=(h y).2 (List.mem_cons_self ..)
  cases this
 | x :: l,[],_,_,h=>by
  have:=(h x).1 (List.mem_cons_self ..)
  cases this
 | x :: l,y :: m,hl0,hm0,h=>by
  obtain ⟨hx,hl⟩:=List.pairwise_cons.1 hl0
  obtain ⟨hy,hm⟩:=List.pairwise_cons.1 hm0
  clear hl0 hm0
  have e : x = y:=by
   rcases List.mem_cons.1 ((h x).1 (List.mem_cons_self ..)) with e | h1
   ·exact e
   ·rcases List.mem_cons.1 ((h y).2 (List.mem_cons_self ..)) with e | h2
    ·exact e.symm
    ·have h3:=hy x h1
     have h4:=hx y h2
     rw [ltK_asymm h3] at h4
     cases h4
  subst e
  refine congrArg (x :: ·) (rising_ext g hl hm fun z=>⟨fun hz=>?_,fun hz=>?_⟩)
  ·rcases List.mem_cons.1 ((h z).1 (List.mem_cons_of_mem _ hz)) with e | h1
   ·rw [e] at hz
    exact absurd rfl (ltK_ne (hx x hz))
   ·exact h1
  ·rcases List.mem_cons.1 ((h z).2 (List.mem_cons_of_mem _ hz)) with e | h1
   ·rw [e] at hz
    exact absurd rfl (ltK_ne (hy x hz))
   ·exact h1
section
variable (key : S34 → ByteArray)
def getL (l : List S34) (k : ByteArray) : List S34:=(l.find? fun x=>decide (key x = k)).toList
def Bet (a b : List S34) (p : List S82) : Prop:=(p.Pairwise fun x y=>ltK x.f0 y.f0 = true) ∧ ∀ x,x ∈ p ↔ x.f1 = getL key a x.f0 ∧ x.f2 = getL key b x.f0 ∧ x.f1 ≠ x.f2
variable {key}
theorem getM_mapK (l : List S34) (k : ByteArray) : getM (mapK key l) k = getL key l k:=by
 unfold getM getL
 rw [has_mapK]
 cases hf : l.find? (fun x=>decide (key x = k)) with
 | none =>
  rw [if_neg]
  ·rfl
  ·intro h
   obtain ⟨x,hx,hk⟩:=List.any_eq_true.1 h
   exact absurd hk (List.find?_eq_none.1 hf x hx)
 | some d =>
  rw [if_pos]
  ·have h2 : (mapK key l).atKey (KL k) .nil = .held d:=by
    show (DataW.map (l.map (entK key))).atKey (KL k) .nil = _
    rw [atKey_find,List.find?_map]
    have h3 : ((fun p : Lit × DataW S34=>p.1.sameKey (KL k)) ∘ entK key) = fun x=>decide (key x = k):=funext fun x=>same_KL _ _
    rw [h3,hf]
    rfl
   rw [h2]
   rfl
  ·exact List.any_eq_true.2 ⟨d,List.mem_of_find?_eq_some hf,List.find?_some (p:=fun x=>decide (key x = k)) hf⟩
theorem getL_len (l : List S34) (k : ByteArray) : (getL key l k).length ≤ 1:=by
 unfold getL
 cases l.find? (fun x=>decide (key x = k)) with
 | none=>exact Nat.zero_le _
 | some d=>exact Nat.le_refl _
theorem getL_sub {l : List S34} {k : ByteArray} {y : S34} (h : y ∈ getL key l k) : y ∈ l ∧ key y = k:=by
 unfold getL at h
 cases hf : l.find? (fun x=>decide (key x = k)) with
 | none=>rw [hf] at h;cases h
 | some d =>
  rw [hf] at h
  rw [List.mem_singleton.1 h]
  exact ⟨List.mem_of_find?_eq_some hf,of_decide_eq_true (List.find?_some (p:=fun x=>decide (key x = k)) hf)⟩
theorem mem_getL {l : List S34} (h : Ris key l) {y : S34} (hy : y ∈ l) : y ∈ getL key l (key y):=by
 unfold getL
 cases hf : l.find? (fun x=>decide (key x = key y)) with
 | none=>exact absurd (decide_eq_true rfl) (List.find?_eq_none.1 hf y hy)
 | some d =>
  have h2:=of_decide_eq_true (List.find?_some (p:=fun x=>decide (key x = key y)) hf)
  rw [ris_inj h (List.mem_of_find?_eq_some hf) hy h2]
  exact List.mem_singleton.2 rfl
theorem mem_puts {ds : List S34} (hd : ds.length ≤ 1) (l : List S34) {y : S34} : y ∈ putsL key l ds ↔ y ∈ ds ∨ (y ∈ l ∧ ∀ d ∈ ds,key y ≠ key d):=by
 rcases ds with _ | ⟨d,_ | ⟨d2,ds⟩⟩
 ·show y ∈ l ↔ _
  exact ⟨fun h=>Or.inr ⟨h,fun d hd=>by cases hd⟩,fun h=>h.elim (fun h=>by cases h) fun h=>h.1⟩
 ·show y ∈ putL key d l false ↔ _
  rw [mem_put]
  constructor
  ·rintro (⟨_,h⟩ | ⟨h,e⟩)
   ·exact Or.inl (List.mem_singleton.2 h)
   ·exact Or.inr ⟨h,fun d' hd'=>by rw [List.mem_singleton.1 hd'];exact e⟩
  ·rintro (h | ⟨h,e⟩)
   ·exact Or.inl ⟨rfl,List.mem_singleton.1 h⟩
   ·exact Or.inr ⟨h,e d (List.mem_cons_self ..)⟩
 ·simp only [List.length_cons] at hd
  omega
theorem mem_steps : ∀ (p : List S82) (l : List S34) {y : S34},(∀ x ∈ p,x.f2.length ≤ 1 ∧ ∀ d ∈ x.f2,key d = x.f0) → (p.Pairwise fun x y=>ltK x.f0 y.f0 = true) → (y ∈ stepsL key l p ↔ (∃ x ∈ p,y ∈ x.f2) ∨ (y ∈ l ∧ ∀ x ∈ p,∀ d ∈ x.f2,key y ≠ key d))
 | [],l,y,_,_=>⟨fun h=>Or.inr ⟨h,fun x hx=>by cases hx⟩,fun h=>h.elim (fun ⟨x,hx,_⟩=>by cases hx) fun h=>h.1⟩
 | x :: p,l,y,h,hp=>by
  obtain ⟨hx,hp⟩:=List.pairwise_cons.1 hp
  obtain ⟨h1,h2⟩:=h x (List.mem_cons_self ..)
  show y ∈ stepsL key (putsL key l x.f2) p ↔ _
  rw [mem_steps p _ (fun z hz=>h z (List.mem_cons_of_mem _ hz)) hp,mem_puts h1]
  constructor
  ·rintro (⟨z,hz,hy⟩ | ⟨hy | ⟨hy,hn⟩,ha⟩)
   ·exact Or.inl ⟨z,List.mem_cons_of_mem _ hz,hy⟩
   ·exact Or.inl ⟨x,List.mem_cons_self ..,hy⟩
   ·refine Or.inr ⟨hy,fun z hz d hd=>?_⟩
    rcases List.mem_cons.1 hz with rfl | hz
    ·exact hn d hd
    ·exact ha z hz d hd
  ·rintro (⟨z,hz,hy⟩ | ⟨hy,ha⟩)
   ·rcases List.mem_cons.1 hz with rfl | hz
    ·refine Or.inr ⟨Or.inl hy,fun u hu d hd=>?_⟩
     rw [h2 y hy,(h u (List.mem_cons_of_mem _ hu)).2 d hd]
     exact ltK_ne (hx u hu)
    ·exact Or.inl ⟨z,hz,hy⟩
   ·exact Or.inr ⟨Or.inr ⟨hy,ha x (List.mem_cons_self ..)⟩,fun z hz=>ha z (List.mem_cons_of_mem _ hz)⟩
theorem mem_drops : ∀ (ks : List ByteArray) (l : List S34) {y : S34},y ∈ dropsL key l ks ↔ y ∈ l ∧ ∀ s ∈ ks,key y ≠ s
 | [],l,y=>⟨fun h=>⟨h,fun s hs=>by cases hs⟩,fun h=>h.1⟩
 | k :: ks,l,y=>by
  show y ∈ dropsL key (dropL key k l) ks ↔ _
  rw [mem_drops ks,mem_drop]
  constructor
  ·rintro ⟨⟨h1,h2⟩,h3⟩
   refine ⟨h1,fun s hs=>?_⟩
   rcases List.mem_cons.1 hs with rfl | hs
   ·exact h2
   ·exact h3 s hs
  ·rintro ⟨h1,h2⟩
   exact ⟨⟨h1,h2 k (List.mem_cons_self ..)⟩,fun s hs=>h2 s (List.mem_cons_of_mem _ hs)⟩
theorem mem_apply {p : List S82} (m : List S34) {y : S34} (h : ∀ x ∈ p,x.f2.length ≤ 1 ∧ ∀ d ∈ x.f2,key d = x.f0) (hp : p.Pairwise fun x y=>ltK x.f0 y.f0 = true) : y ∈ applyL key m p ↔ (∃ x ∈ p,y ∈ x.f2) ∨ (y ∈ m ∧ ∀ x ∈ p,key y ≠ x.f0):=by
 unfold applyL
 rw [mem_steps p _ h hp,mem_drops]
 constructor
 ·rintro (h1 | ⟨⟨h1,h2⟩,_⟩)
  ·exact Or.inl h1
  ·exact Or.inr ⟨h1,fun x hx=>h2 _ (List.mem_map.2 ⟨x,hx,rfl⟩)⟩
 ·rintro (h1 | ⟨h1,h2⟩)
  ·exact Or.inl h1
  ·refine Or.inr ⟨⟨h1,fun s hs=>?_⟩,fun x hx d hd=>?_⟩
   ·obtain ⟨x,hx,rfl⟩:=List.mem_map.1 hs
    exact h2 x hx
   ·rw [(h x hx).2 d hd]
    exact h2 x hx
theorem bet_side {a b : List S34} {p : List S82} (h : Bet key a b p) : ∀ x ∈ p,x.f2.length ≤ 1 ∧ ∀ d ∈ x.f2,key d = x.f0:=fun x hx=>by
 obtain ⟨_,h2,_⟩:=(h.2 x).1 hx
 rw [h2]
 exact ⟨getL_len _ _,fun d hd=>(getL_sub hd).2⟩
theorem bet_apply {a b : List S34} {p : List S82} (ha : Ris key a) (hb : Ris key b) (h : Bet key a b p) : applyL key a p = b:=by
 refine rising_ext key (stepsL_ris p (dropsL_ris _ ha)) hb fun y=>?_
 rw [mem_apply a (bet_side h) h.1]
 constructor
 ·rintro (⟨x,hx,hy⟩ | ⟨hy,hn⟩)
  ·obtain ⟨_,h2,_⟩:=(h.2 x).1 hx
   rw [h2] at hy
   exact (getL_sub hy).1
  ·have h3:=mem_getL ha hy
   by_cases he : getL key a (key y) = getL key b (key y)
   ·rw [he] at h3
    exact (getL_sub h3).1
   ·exact absurd rfl (hn ⟨key y,getL key a (key y),getL key b (key y)⟩ ((h.2 _).2 ⟨rfl,rfl,he⟩))
 ·intro hy
  by_cases he : getL key a (key y) = getL key b (key y)
  ·have h3:=mem_getL hb hy
   rw [← he] at h3
   refine Or.inr ⟨(getL_sub h3).1,fun x hx e=>?_⟩
   obtain ⟨h1,h2,h4⟩:=(h.2 x).1 hx
   rw [h1,h2,← e] at h4
   exact h4 he
  ·exact Or.inl ⟨⟨key y,getL key a (key y),getL key b (key y)⟩,(h.2 _).2 ⟨rfl,rfl,he⟩,mem_getL hb hy⟩
theorem bet_fits (sm : S34 → S34 → Bool) (hsm : ∀ l m,alike sm l m = true ↔ l = m) {a b : List S34} {p : List S82} (h : Bet key a b p) : fitsB sm (mapK key a) p = true:=by
 unfold fitsB
 refine List.all_eq_true.2 fun x hx=>?_
 obtain ⟨h1,_,_⟩:=(h.2 x).1 hx
 rw [getM_mapK,← h1]
 exact (hsm _ _).2 rfl
theorem right_of (sp : ByteArray → Bool) (sd : List S34 → ByteArray → Bool) (sm : S34 → S34 → Bool) : ∀ (p : List S82) (o : Option ByteArray),(∀ x ∈ p,sp x.f0 = true ∧ sd x.f1 x.f0 = true ∧ sd x.f2 x.f0 = true ∧ alike sm x.f1 x.f2 = false) → (p.Pairwise fun x y=>ltK x.f0 y.f0 = true) → (∀ x ∈ p,∀ k,o = some k → ltK k x.f0 = true) → rightO sp sd sm o p = true
 | [],_,_,_,_=>rfl
 | x :: p,o,h,hp,ho=>by
  obtain ⟨hx,hp⟩:=List.pairwise_cons.1 hp
  obtain ⟨h1,h2,h3,h4⟩:=h x (List.mem_cons_self ..)
  have ih:=right_of sp sd sm p (some x.f0) (fun z hz=>h z (List.mem_cons_of_mem _ hz)) hp (fun z hz k e=>by cases e;exact hx z hz)
  cases o with
  | none =>
   show (sp x.f0 && (true && (sd x.f1 x.f0 && (sd x.f2 x.f0 && (!alike sm x.f1 x.f2 && rightO sp sd sm (some x.f0) p))))) = true
   rw [h1,h2,h3,h4,ih]
   rfl
  | some k =>
   show (sp x.f0 && (ltK k x.f0 && (sd x.f1 x.f0 && (sd x.f2 x.f0 && (!alike sm x.f1 x.f2 && rightO sp sd sm (some x.f0) p))))) = true
   rw [h1,ho x (List.mem_cons_self ..) k rfl,h2,h3,h4,ih]
   rfl
theorem lt_empty {k : ByteArray} (h : 0 < k.size) : ltK ⟨#[]⟩ k = true:=by
 obtain ⟨⟨l⟩⟩:=k
 cases l with
 | nil=>exact absurd h (Nat.lt_irrefl 0)
 | cons a l=>rfl
theorem insAll_ris : ∀ (ds : List S34) {l : List ByteArray},RisB l → RisB (insAll key ds l)
 | [],_,h=>h
 | d :: ds,l,h=>insAll_ris ds (insK_ris h)
theorem insAll_in {s : ByteArray} : ∀ {ds : List S34} {l : List ByteArray},(s ∈ l ∨ ∃ d ∈ ds,s = key d) → s ∈ insAll key ds l
 | [],l,h=>h.elim id fun ⟨d,hd,_⟩=>by cases hd
 | d :: ds,l,h=>by
  refine insAll_in (l:=insK (key d) l) ?_
  rcases h with h | ⟨d',hd,e⟩
  ·exact Or.inl (insK_mem.2 (Or.inr h))
  ·rcases List.mem_cons.1 hd with rfl | hd
   ·exact Or.inl (insK_mem.2 (Or.inl e))
   ·exact Or.inr ⟨d',hd,e⟩
theorem ofG_mem (sm : S34 → S34 → Bool) (hsm : ∀ l m,alike sm l m = true ↔ l = m) (Ma Mb : DataW S34) (ks : List ByteArray) (x : S82) : x ∈ ofG sm Ma Mb ks ↔ x.f0 ∈ ks ∧ x.f1 = getM Ma x.f0 ∧ x.f2 = getM Mb x.f0 ∧ x.f1 ≠ x.f2:=by
 unfold ofG
 rw [List.mem_flatMap]
 constructor
 ·rintro ⟨k,hk,hx⟩
  split at hx
  next h=>cases hx
  next h =>
   rw [List.mem_singleton.1 hx]
   exact ⟨hk,rfl,rfl,fun e=>h ((hsm _ _).2 e)⟩
 ·rintro ⟨h1,h2,h3,h4⟩
  refine ⟨x.f0,h1,?_⟩
  rw [if_neg (fun e=>h4 (by rw [h2,h3];exact (hsm _ _).1 e)),← h2,← h3]
  exact List.mem_singleton.2 rfl
theorem ofG_ris (sm : S34 → S34 → Bool) (Ma Mb : DataW S34) : ∀ {ks : List ByteArray},RisB ks → (ofG sm Ma Mb ks).Pairwise fun x y=>ltK x.f0 y.f0 = true
 | [],_=>List.Pairwise.nil
 | k :: ks,h=>by
  obtain ⟨hk,hr⟩:=List.pairwise_cons.1 h
  have ih:=ofG_ris sm Ma Mb hr
  unfold ofG
  rw [List.flatMap_cons]
  refine List.pairwise_append.2 ⟨?_,ih,fun x hx y hy=>?_⟩
  ·split
   ·exact List.Pairwise.nil
   ·exact List.pairwise_singleton ..
  ·obtain ⟨k2,hk2,hy⟩:=List.mem_flatMap.1 hy
   split at hx
   ·cases hx
   ·split at hy
    ·cases hy
    ·rw [List.mem_singleton.1 hx,List.mem_singleton.1 hy]
     exact hk k2 hk2
theorem of_bet (sm : S34 → S34 → Bool) (hsm : ∀ l m,alike sm l m = true ↔ l = m) (a b : List S34) : Bet key a b (ofG sm (mapK key a) (mapK key b) (insAll key b (insAll key a []))):=by
 refine ⟨ofG_ris sm _ _ (insAll_ris b (insAll_ris a List.Pairwise.nil)),fun x=>?_⟩
 rw [ofG_mem sm hsm,getM_mapK,getM_mapK]
 refine ⟨fun h=>h.2,fun h=>⟨?_,h⟩⟩
 obtain ⟨h1,h2,h3⟩:=h
 by_cases ha : getL key a x.f0 = []
 ·cases hb : getL key b x.f0 with
  | nil=>rw [h1,h2,ha,hb] at h3;exact absurd rfl h3
  | cons y r =>
   have hy:=getL_sub (show y ∈ getL key b x.f0 by rw [hb];exact List.mem_cons_self ..)
   exact insAll_in (Or.inr ⟨y,hy.1,hy.2.symm⟩)
 ·cases hc : getL key a x.f0 with
  | nil=>exact absurd hc ha
  | cons y r =>
   have hy:=getL_sub (show y ∈ getL key a x.f0 by rw [hc];exact List.mem_cons_self ..)
   exact insAll_in (Or.inl (insAll_in (Or.inr ⟨y,hy.1,hy.2.symm⟩)))
theorem bet_right (sp : ByteArray → Bool) (sd : List S34 → ByteArray → Bool) (sm : S34 → S34 → Bool) (hsm : ∀ l m,alike sm l m = true ↔ l = m) {a b : List S34} {p : List S82} (h : Bet key a b p) (hg : ∀ d,d ∈ a ∨ d ∈ b → sp (key d) = true ∧ 0 < (key d).size)
  (hsd : ∀ (l : List S34) (k : ByteArray),l.length ≤ 1 → (∀ d ∈ l,key d = k) → sd l k = true) : rightO sp sd sm (some ⟨#[]⟩) p = true:=by
 have hk : ∀ x ∈ p,sp x.f0 = true ∧ 0 < x.f0.size:=fun x hx=>by
  obtain ⟨h1,h2,h3⟩:=(h.2 x).1 hx
  by_cases ha : getL key a x.f0 = []
  ·cases hb : getL key b x.f0 with
   | nil=>rw [h1,h2,ha,hb] at h3;exact absurd rfl h3
   | cons y r =>
    have hy:=getL_sub (show y ∈ getL key b x.f0 by rw [hb];exact List.mem_cons_self ..)
    rw [← hy.2]
    exact hg y (Or.inr hy.1)
  ·cases hc : getL key a x.f0 with
   | nil=>exact absurd hc ha
   | cons y r =>
    have hy:=getL_sub (show y ∈ getL key a x.f0 by rw [hc];exact List.mem_cons_self ..)
    rw [← hy.2]
    exact hg y (Or.inl hy.1)
 refine right_of sp sd sm p _ (fun x hx=>?_) h.1 (fun x hx k e=>by cases e;exact lt_empty (hk x hx).2)
 obtain ⟨h1,h2,h3⟩:=(h.2 x).1 hx
 refine ⟨(hk x hx).1,?_,?_,?_⟩
 ·rw [h1]
  exact hsd _ _ (getL_len _ _) fun d hd=>(getL_sub hd).2
 ·rw [h2]
  exact hsd _ _ (getL_len _ _) fun d hd=>(getL_sub hd).2
 ·cases hh : alike sm x.f1 x.f2 with
  | false=>rfl
  | true=>exact absurd ((hsm _ _).1 hh) h3
end
end Go.Proofs.YtmlebgikdegjjaaGreatDoor.Hd
