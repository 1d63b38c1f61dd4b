/- Plain laws: definitions that are turned, and New of definitions in another order. -/
import Derived.Test.YtmlebgikdegjjaaGreatDoorUh
import Derived.Test.YtmlebgikdegjjaaGreatDoorPAllx16
namespace Go.Proofs.YtmlebgikdegjjaaGreatDoor.Hd
open Go.Maps Go.RowKit Go.Proofs.YtmlebgikdegjjaaGreatDoorW.PrintWords Go.Proofs.YtmlebgikdegjjaaGreatDoorW.PrintLast Go.Proofs.YtmlebgikdegjjaaGreatDoorW.PrintMore Go.Proofs.YtmlebgikdegjjaaGreatDoor.PAll
attribute [local go_sem] max2_int min2_int max_two min_two max_three min_three max_four min_four
set_option linter.unusedVariables false
set_option linter.unusedSimpArgs false
def placeT (n : Nat) (turn : Int) (i : Nat) : Int:=Int.tmod (wrap64 ((i : Int) + Int.tmod (wrap64 (Int.tmod turn (n : Int) + (n : Int))) (n : Int))) (n : Int)
def turnedD (ps : List S34) (turn : Int) : List S34:=(List.range ps.length).map fun i : Nat=>rd_T34 ps (placeT ps.length turn i)
theorem rest_in (n : Nat) (turn : Int) (h0 : 0 < n) (hn : n ≤ 1000) : 0 ≤ Int.tmod (wrap64 (Int.tmod turn (n : Int) + (n : Int))) (n : Int) ∧ Int.tmod (wrap64 (Int.tmod turn (n : Int) + (n : Int))) (n : Int) < (n : Int):=by
 have h1 : -(n : Int) < Int.tmod turn (n : Int) ∧ Int.tmod turn (n : Int) < (n : Int):=by
  refine ⟨?_,Int.tmod_lt_of_pos _ (by omega)⟩
  by_cases h : 0 ≤ turn
  ·have:=Int.tmod_nonneg (n : Int) h
   omega
  ·have h3:=Int.neg_tmod (-turn) (n : Int)
   rw [Int.neg_neg] at h3
   have:=Int.tmod_lt_of_pos (-turn) (b:=(n : Int)) (by omega)
   omega
 have h2 : wrap64 (Int.tmod turn (n : Int) + (n : Int)) = Int.tmod turn (n : Int) + (n : Int):=IntWalk.wrap64_in _ (by omega)
 rw [h2]
 exact ⟨Int.tmod_nonneg _ (by omega),Int.tmod_lt_of_pos _ (by omega)⟩
theorem place_in (n : Nat) (turn : Int) (i : Nat) (hi : i < n) (hn : n ≤ 1000) : 0 ≤ placeT n turn i ∧ placeT n turn i < (n : Int):=by
 obtain ⟨a,b⟩:=rest_in n turn (by omega) hn
 unfold placeT
 have h2 : wrap64 ((i : Int) + Int.tmod (wrap64 (Int.tmod turn (n : Int) + (n : Int))) (n : Int)) = (i : Int) + Int.tmod (wrap64 (Int.tmod turn (n : Int) + (n : Int))) (n : Int):=IntWalk.wrap64_in _ (by omega)
 rw [h2]
 exact ⟨Int.tmod_nonneg _ (by omega),Int.tmod_lt_of_pos _ (by omega)⟩
theorem rest_val (turn : Int) (n : Nat) (h : 0 < n) : r01_Rest.f turn (n : Int) = some (Int.tmod (wrap64 (Int.tmod turn (n : Int) + (n : Int))) (n : Int)):=by
 unfold r01_Rest.f
 rw [if_neg (by omega)]
theorem turned_len (ps : List S34) (turn : Int) : (turnedD ps turn).length = ps.length:=by simp [turnedD]
theorem turned_at (ps : List S34) (turn : Int) (x : Nat) (hx : x < (turnedD ps turn).length) : (turnedD ps turn)[x] = rd_T34 ps (placeT ps.length turn x):=by simp [turnedD]
theorem turned_perm (ps : List S34) (turn : Int) (hps : ps.length ≤ 1000) : (turnedD ps turn).Perm ps:=by
 by_cases h0 : 0 < ps.length
 ·obtain ⟨ra,rb⟩:=rest_in ps.length turn h0 (by omega)
  obtain ⟨R,hR⟩ : ∃ R,R = Int.tmod (wrap64 (Int.tmod turn (ps.length : Int) + (ps.length : Int))) (ps.length : Int):=⟨_,rfl⟩
  rw [← hR] at ra rb
  have e : turnedD ps turn = ps.drop R.toNat ++ ps.take R.toNat:=by
   apply List.ext_getElem
   ·rw [turned_len,List.length_append,List.length_drop,List.length_take]
    omega
   ·intro i h1 h2
    have hi : i < ps.length:=by rw [turned_len] at h1;exact h1
    rw [turned_at]
    have hp : placeT ps.length turn i = Int.tmod ((i : Int) + R) (ps.length : Int):=by
     unfold placeT
     rw [← hR,IntWalk.wrap64_in _ (by omega)]
    rw [hp,Int.tmod_eq_emod_of_nonneg (by omega)]
    by_cases hlt : (i : Int) + R < (ps.length : Int)
    ·rw [Int.emod_eq_of_lt (by omega) hlt,show (i : Int) + R = ((i + R.toNat : Nat) : Int) by omega,rd_at ps (i + R.toNat) (by omega),List.getElem_append_left (by rw [List.length_drop];omega),List.getElem_drop]
     congr 1
     omega
    ·have hm : ((i : Int) + R) % (ps.length : Int) = (i : Int) + R - (ps.length : Int):=by
      rw [← Int.sub_emod_right,Int.emod_eq_of_lt (by omega) (by omega)]
     rw [hm,show (i : Int) + R - (ps.length : Int) = ((i + R.toNat - ps.length : Nat) : Int) by omega,rd_at ps (i + R.toNat - ps.length) (by omega),List.getElem_append_right (by rw [List.length_drop];omega),List.getElem_take]
     congr 1
     rw [List.length_drop]
     omega
  rw [e]
  exact (List.perm_append_comm).trans (by rw [List.take_append_drop])
 ·have : ps = []:=List.eq_nil_of_length_eq_zero (by omega)
  subst this
  exact List.Perm.refl _
theorem heapD : Kd.Heap k34:=Kd.heap_iso _ (Kd.heap_pair (Kd.heap_int .i64) (Kd.heap_pair Kd.heap_string (Kd.heap_pair Kd.heap_string (Kd.heap_pair (Kd.heap_slice 9 Kd.heap_string) (Kd.heap_pair Kd.heap_string Kd.heap_string)))))
theorem infoD_ : ((Tryz.prog.info? 34).map (fun i=>(i.zero,i.size,i.bytes))) = some (some (.agg #[.int .i64 0,.string ⟨#[]⟩,.string ⟨#[]⟩,.slice none 0 0,.string ⟨#[]⟩,.string ⟨#[]⟩]),6,96):=by kernel_rfl
theorem n_base {w : World} {base : Nat} {ok : Nat → Prop} {v : Value} {xs : List S34} (h : Kd.N k34 34 w base ok v xs) : ∀ k,v.ownBlock = some k → base ≤ k:=fun k hk=>by
 obtain ⟨_,rows,_,hR,_⟩:=h
 exact Kd.R_base hR k hk
theorem fk_old {w W : World} {x : S34} {c : List Value} (h : k34.K w x c) (hb : Below w.heap.size w W) : Kd.FK k34 W (fun k=>k < w.heap.size) x c :=
 fun W' hW=>heapD.K (fun k hlt=>(hW k hlt (Nat.lt_of_lt_of_le hlt hb.size)).trans (hb.block k hlt)) h
section
variable {key : S34 → ByteArray}
theorem putL_done {d : S34} : ∀ {l : List S34},hasL key (key d) l = false → putL key d l true = l
 | [],_=>rfl
 | x :: l,h=>by
  obtain ⟨h1,h2⟩:=Bool.or_eq_false_iff.1 (show (decide (key x = key d) || hasL key (key d) l) = false from h)
  unfold putL
  rw [if_neg (by simp),if_neg (of_decide_eq_false h1),Bool.true_or,putL_done h2]
  rfl
theorem putL_perm {d : S34} : ∀ {l : List S34},hasL key (key d) l = false → (putL key d l false).Perm (d :: l)
 | [],_=>List.Perm.refl _
 | x :: l,h=>by
  obtain ⟨h1,h2⟩:=Bool.or_eq_false_iff.1 (show (decide (key x = key d) || hasL key (key d) l) = false from h)
  unfold putL
  rw [if_neg (of_decide_eq_false h1)]
  cases hk : ltK (key x) (key d) with
  | true =>
   rw [if_neg (by simp)]
   exact (List.Perm.cons x (putL_perm h2)).trans (List.Perm.swap ..)
  | false =>
   rw [if_pos (by simp),show (false || !false) = true from rfl,putL_done h2]
   exact List.Perm.refl _
theorem ris_eq : ∀ {a b : List S34},Ris key a → Ris key b → a.Perm b → a = b
 | [],b,_,_,h=>(List.Perm.nil_eq h)
 | x :: a,[],_,_,h=>absurd h.length_eq (by simp)
 | x :: a,y :: b,ha,hb,h=>by
  obtain ⟨ha1,ha2⟩:=List.pairwise_cons.1 ha
  obtain ⟨hb1,hb2⟩:=List.pairwise_cons.1 hb
  have hxy : x = y:=by
   have h1 : x ∈ y :: b:=h.mem_iff.1 (List.mem_cons_self ..)
   have h2 : y ∈ x :: a:=h.mem_iff.2 (List.mem_cons_self ..)
   rcases List.mem_cons.1 h1 with h1 | h1
   ·exact h1
   ·rcases List.mem_cons.1 h2 with h2 | h2
    ·exact h2.symm
    ·have h3:=ltK_asymm (ha1 y h2)
     rw [hb1 x h1] at h3
     cases h3
  subst hxy
  rw [ris_eq ha2 hb2 (List.Perm.cons_inv h)]
def Apart (key : S34 → ByteArray) (l : List S34) : Prop:=l.Pairwise fun x y=>key x ≠ key y
theorem has_false {ks : ByteArray} {l : List S34} : hasL key ks l = false ↔ ∀ y ∈ l,key y ≠ ks:=by
 unfold hasL
 rw [List.any_eq_false]
 exact ⟨fun h y hy e=>h y hy (decide_eq_true e),fun h y hy e=>h y hy (of_decide_eq_true e)⟩
theorem newL_apart : ∀ {l out : List S34},Apart key out → (newL key l out).2 = 0 → (∀ x ∈ l,(key x).size ≠ 0) ∧ Apart key (l ++ out)
 | [],out,ho,_=>⟨fun x hx=>(by cases hx),ho⟩
 | d :: l,out,ho,h=>by
  unfold newL at h
  by_cases h0 : (key d).size = 0
  ·rw [if_pos h0] at h
   cases h
  ·rw [if_neg h0] at h
   cases h1 : hasL key (key d) out with
   | true =>
    rw [if_pos h1] at h
    cases h
   | false =>
    rw [if_neg (by rw [h1];decide)] at h
    have hp:=putL_perm h1
    have hap : Apart key (d :: out):=List.pairwise_cons.2 ⟨fun y hy e=>has_false.1 h1 y hy e.symm,ho⟩
    obtain ⟨h2,h3⟩:=newL_apart ((List.Perm.pairwise_iff (fun h=>h.symm) hp).2 hap) h
    refine ⟨fun x hx=>?_,?_⟩
    ·rcases List.mem_cons.1 hx with rfl | hx
     ·exact h0
     ·exact h2 x hx
    ·exact (List.Perm.pairwise_iff (fun h=>h.symm) ((List.Perm.append_left l hp).trans List.perm_middle)).1 h3
theorem newL_good : ∀ {l out : List S34},(∀ x ∈ l,(key x).size ≠ 0) → Apart key (l ++ out) → Ris key out → (newL key l out).2 = 0 ∧ (newL key l out).1.Perm (l ++ out) ∧ Ris key (newL key l out).1
 | [],out,_,_,hr=>⟨rfl,List.Perm.refl _,hr⟩
 | d :: l,out,hs,ha,hr=>by
  obtain ⟨h1,h2⟩:=List.pairwise_cons.1 ha
  have hf : hasL key (key d) out = false:=has_false.2 fun y hy e=>h1 y (List.mem_append_right _ hy) e.symm
  have hp:=putL_perm hf
  have hm : (l ++ putL key d out false).Perm ((d :: l) ++ out):=(List.Perm.append_left l hp).trans List.perm_middle
  unfold newL
  rw [if_neg (hs d (List.mem_cons_self ..)),if_neg (by rw [hf];decide)]
  obtain ⟨a,b,c⟩:=newL_good (fun x hx=>hs x (List.mem_cons_of_mem _ hx)) ((List.Perm.pairwise_iff (fun h=>h.symm) hm).2 ha) (putL_ris d hr)
  exact ⟨a,b.trans hm,c⟩
theorem newL_turn {l l' : List S34} (hp : l'.Perm l) (h : (newL key l []).2 = 0) : newL key l' [] = newL key l []:=by
 obtain ⟨h1,h2⟩:=newL_apart (key:=key) (out:=[]) List.Pairwise.nil h
 rw [List.append_nil] at h2
 obtain ⟨_,b1,c1⟩:=newL_good (key:=key) (out:=[]) h1 (by rw [List.append_nil];exact h2) List.Pairwise.nil
 obtain ⟨a2,b2,c2⟩:=newL_good (key:=key) (l:=l') (out:=[]) (fun x hx=>h1 x (hp.mem_iff.1 hx)) (by rw [List.append_nil];exact (List.Perm.pairwise_iff (fun h=>h.symm) hp).2 h2) List.Pairwise.nil
 rw [List.append_nil] at b1 b2
 exact Prod.ext (ris_eq c2 c1 (b2.trans (hp.trans b1.symm))) (a2.trans h.symm)
theorem ris_key {l : List S34} (h : Ris key l) : ∀ {x y : S34},x ∈ l → y ∈ l → key x = key y → x = y:=by
 induction l with
 | nil=>intro x y hx;cases hx
 | cons z l ih =>
  obtain ⟨h1,h2⟩:=List.pairwise_cons.1 h
  intro x y hx hy e
  rcases List.mem_cons.1 hx with a | a
  ·rcases List.mem_cons.1 hy with b | b
   ·rw [a,b]
   ·rw [a] at e
    exact absurd e (ltK_ne (h1 y b))
  ·rcases List.mem_cons.1 hy with b | b
   ·rw [b] at e
    exact absurd e.symm (ltK_ne (h1 x a))
   ·exact ih h2 a b e
end
end Go.Proofs.YtmlebgikdegjjaaGreatDoor.Hd
