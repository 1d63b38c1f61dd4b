/- A map of keys: what its block holds, a key stored, its keys in order. -/
import Derived.Test.YtmlebgikdegjjaaGreatDoorUg
import Derived.Test.YtmlebgikdegjjaaGreatDoorIt
namespace Go.Proofs.YtmlebgikdegjjaaGreatDoor.Hd
open Go.Maps Go.RowKit Go.Proofs.YtmlebgikdegjjaaGreatDoorW.PrintWords Go.Proofs.YtmlebgikdegjjaaGreatDoorW.PrintLast Go.Proofs.YtmlebgikdegjjaaGreatDoorW.PrintMore Go.Proofs.YtmlebgikdegjjaaGreatDoor.PAll
attribute [local go_sem] max2_int min2_int max_two min_two max_three min_three max_four min_four
set_option linter.unusedVariables false
set_option linter.unusedSimpArgs false
def insK (s : ByteArray) : List ByteArray → List ByteArray
 | []=>[s]
 | x :: l=>if ltK s x = true then s :: x :: l else if x = s then x :: l else x :: insK s l
def RisB (l : List ByteArray) : Prop:=l.Pairwise fun x y=>ltK x y = true
theorem insK_mem {s y : ByteArray} : ∀ {l : List ByteArray},y ∈ insK s l ↔ y = s ∨ y ∈ l
 | []=>by
  show y ∈ [s] ↔ _
  rw [List.mem_singleton]
  exact ⟨Or.inl,fun h=>h.elim id fun h=>by cases h⟩
 | x :: l=>by
  unfold insK
  split
  ·rw [List.mem_cons]
  ·split
   next h =>
    subst h
    exact ⟨Or.inr,fun h=>h.elim (fun e=>by rw [e];exact List.mem_cons_self ..) id⟩
   next h =>
    rw [List.mem_cons,insK_mem,List.mem_cons]
    exact ⟨fun h=>by rcases h with h | h | h <;> simp [h],fun h=>by rcases h with h | h | h <;> simp [h]⟩
theorem insK_ris {s : ByteArray} : ∀ {l : List ByteArray},RisB l → RisB (insK s l)
 | [],_=>List.pairwise_singleton ..
 | x :: l,h=>by
  obtain ⟨hx,hl⟩:=List.pairwise_cons.1 h
  unfold insK
  split
  next h1 =>
   refine List.pairwise_cons.2 ⟨fun y hy=>?_,h⟩
   rcases List.mem_cons.1 hy with rfl | hy
   ·exact h1
   ·exact ltK_trans h1 (hx y hy)
  next h1 =>
   split
   next h2=>exact h
   next h2 =>
    refine List.pairwise_cons.2 ⟨fun y hy=>?_,insK_ris hl⟩
    rcases insK_mem.1 hy with rfl | hy
    ·rcases ltK_three y x with h3 | h3 | h3
     ·exact absurd h3 h1
     ·exact absurd h3.symm h2
     ·exact h3
    ·exact hx y hy
theorem insK_len (s : ByteArray) : ∀ (l : List ByteArray),(insK s l).length ≤ l.length + 1
 | []=>Nat.le_refl _
 | x :: l=>by
  unfold insK
  split
  ·exact Nat.le_refl _
  ·split
   ·exact Nat.le_succ _
   ·exact Nat.succ_le_succ (insK_len s l)
def entB (s : ByteArray) : Lit × DataW Value:=(KL s,.held (.bool true))
theorem filterB_above {s : ByteArray} : ∀ {l : List ByteArray},(∀ y ∈ l,ltK s y = true) → ((l.map entB).filter fun p=>!p.1.sameKey (KL s)) = l.map entB
 | [],_=>rfl
 | x :: l,h=>by
  rw [List.map_cons,List.filter_cons_of_pos (by
   show (!(KL x).sameKey (KL s)) = true
   rw [same_KL,decide_eq_false fun e=>ltK_ne (h x (List.mem_cons_self ..)) e.symm]
   rfl),filterB_above fun y hy=>h y (List.mem_cons_of_mem _ hy)]
theorem insertB_above {s : ByteArray} : ∀ {l : List ByteArray},(∀ y ∈ l,ltK s y = true) → DataW.insert (entB s) (l.map entB) = (s :: l).map entB
 | [],_=>rfl
 | x :: l,h=>by
  rw [List.map_cons]
  unfold DataW.insert
  rw [if_pos (show (entB s).1.before (entB x).1 = true from h x (List.mem_cons_self ..))]
  rfl
theorem putB_ent (s : ByteArray) : ∀ {l : List ByteArray},RisB l → DataW.insert (entB s) ((l.map entB).filter fun p=>!p.1.sameKey (KL s)) = (insK s l).map entB
 | [],_=>rfl
 | x :: l,h=>by
  obtain ⟨hx,hl⟩:=List.pairwise_cons.1 h
  unfold insK
  rw [List.map_cons]
  rcases ltK_three s x with h1 | h1 | h1
  ·have hab : ∀ y ∈ x :: l,ltK s y = true:=fun y hy=>by
    rcases List.mem_cons.1 hy with rfl | hy
    ·exact h1
    ·exact ltK_trans h1 (hx y hy)
   rw [← List.map_cons,filterB_above hab,insertB_above hab,if_pos h1]
  ·have hab : ∀ y ∈ l,ltK s y = true:=fun y hy=>by rw [h1];exact hx y hy
   rw [List.filter_cons_of_neg (by
    show ¬ (!(KL x).sameKey (KL s)) = true
    rw [same_KL,decide_eq_true h1.symm]
    simp),filterB_above hab,insertB_above hab,if_neg (by rw [h1,ltK_irrefl];decide),if_pos h1.symm,h1]
  ·rw [List.filter_cons_of_pos (by
    show (!(KL x).sameKey (KL s)) = true
    rw [same_KL,decide_eq_false (ltK_ne h1)]
    rfl)]
   unfold DataW.insert
   rw [if_neg (by
    show ¬ ltK s x = true
    rw [ltK_asymm h1]
    simp),putB_ent s hl,if_neg (by rw [ltK_asymm h1];decide),if_neg (ltK_ne h1)]
   rfl
def datB (l : List ByteArray) : DataW Value:=.map (l.map entB)
theorem put_datB (s : ByteArray) {l : List ByteArray} (h : RisB l) : (datB l).put (KL s) (.held (.bool true)) = datB (insK s l):=congrArg DataW.map (putB_ent s h)
theorem size_datB (l : List ByteArray) : Maps.size (datB l) = l.length:=by
 show (l.map entB).length = _
 rw [List.length_map]
def MapB (w : World) (b : Nat) (l : List ByteArray) : Prop:=w.ownsMap Tryz.prog 9 RV b l.length (datB l) ∧ RisB l
theorem MapB.made (w : World) : MapB (w.alloc (.map #[] 0)) w.heap.size []:=⟨World.ownsMap_made _ _ _ _,List.Pairwise.nil⟩
theorem MapB.lt {w : World} {b : Nat} {l : List ByteArray} (h : MapB w b l) : b < w.heap.size:=h.1.lt
theorem MapB.kept {w w' : World} {b : Nat} {l : List ByteArray} (h : MapB w b l) {row : Option Nat} (hg : w.grownBy w' row) (hne : some b ≠ row) : MapB w' b l:=⟨h.1.kept hg hne,h.2⟩
theorem MapB.below {w w' : World} {b : Nat} {l : List ByteArray} (h : MapB w b l) (hb : Below w.heap.size w w') : MapB w' b l:=h.kept (grown_of_below hb none) (by simp)
theorem MapB.map {w : World} {b : Nat} {l : List ByteArray} (h : MapB w b l) : ∃ es c,w.heap[b]? = some (.map es c):=by
 obtain ⟨⟨es,clock,hb,_⟩,_⟩:=h
 exact ⟨es,clock,hb⟩
section
variable {ops : Array Oper} {rest : List Oper} {o : Oper} {a : Act} {Q : Exit → Act → World → Prop}
theorem madeB_event {W : World} (hgd : o.guard = none) (ho : o.op = .makeMap 123 none)
  (h : ∀ b w1,b = W.heap.size → MapB w1 b [] → Below W.heap.size W w1 → w1.heap.size = W.heap.size + 1 → wpList Tryz.prog ops Q rest (a.put o.dst (.map (some b))) w1) : wpList Tryz.prog ops Q (o :: rest) a W:=by
 refine Kd.event_run hgd (w1:=W.alloc (.map #[] 0)) (v:=.map (some W.heap.size)) ?_ (h _ _ rfl (MapB.made W) (bA (Below.refl _ _) _) (by show (W.heap.push _).size = _;simp))
 unfold execOp
 simp only [ho,Option.map_none,run_makeMap,Sem.run_bind,Sem.run_pure,Result.andThen_ok]
theorem putB_step {W : World} {Kc : Act → World → Prop} (hw : Region.wanted o (yielded ops a.tmps) = true) (m x v : Operand) (hop : o.op = Op.mapUpdate 123 m x v) (b : Nat) (l : List ByteArray) (s : ByteArray) (hm : a.eval m = .map (some b)) (hx : a.eval x = .string s) (hv : a.eval v = .bool true) (hs : s.size ≤ maxLen) (h : MapB W b l) (hn : l.length < maxLen)
  (hK : ∀ w',MapB w' b (insK s l) → W.grownBy w' (some b) → CellsKept W w' → Kc (a.put o.dst undef) w') : if Region.wanted o (yielded ops a.tmps) = true then Oper.wp Tryz.prog o a W Kc Q else Kc (a.put o.dst undef) W:=by
 rw [if_pos hw]
 obtain ⟨h,hr⟩:=h
 obtain ⟨w',hrun,h',hg'⟩:=h.update keyed_ Tryz.underlying123 hn (keyOf_ hs) (d:=.held (.bool true)) (ps:=[]) (val:=.bool true) rfl
 have hk : CellsKept W w':=by
  obtain ⟨es,clock,hb,_⟩:=h
  exact .grown hg' hb
 unfold Oper.wp
 simp [execOp,hop,hm,hx,hv,hrun,Result.andThen]
 refine hK w' ⟨?_,insK_ris hr⟩ hg' hk
 rw [put_datB s hr] at h'
 have h2:=owns_tight h'
 rw [size_datB] at h2
 exact h2
end
theorem str_datB (l : List ByteArray) : strKeys (datB l) = l.map fun s=>s.data.toList:=by
 show (l.map entB).map (fun p=>strOf p.1) = _
 rw [List.map_map]
 rfl
theorem sortedB_calls (w : World) (b : Nat) (l : List ByteArray) (h : MapB w b l) (hz : l.length ≤ 1000000) :
  CallsIn Fence.wide 5 Tryz.prog 93 #[.func (.func 130) #[] #[.pointer (some ⟨w.heap.size,0,none⟩)]] (w.alloc (.cells #[.map (some b)] 123)) fun e w'=>∃ Ak ck,e = .returned (.slice Ak l.length ck) ∧ l.length ≤ ck ∧ Kd.string.C w' Ak l.length l ∧ Below (w.alloc (.cells #[.map (some b)] 123)).heap.size (w.alloc (.cells #[.map (some b)] 123)) w':=by
 obtain ⟨ho,hr⟩:=h
 refine (Tryz.slices_Sorted_keys_93_94 b _ (datB l) RV w ho (by rw [size_datB];simp only [maxLen];omega) (by rw [size_datB];omega)).mono ?_
 rintro e w' ⟨v,ss,rfl,hp,hrow,_,hb⟩
 rw [str_datB] at hp
 have hks : (l.map fun s=>s.data.toList).Pairwise (fun x y=>leB x y = true):=List.pairwise_map.2 (hr.imp fun h=>decide_eq_true (List.le_of_lt (before_lt _ _ h)))
 have h1 : ss.mergeSort (fun x y=>decide (x ≤ y)) = l.map fun s=>s.data.toList:=by
  have h2:=mergeSort_of_perm hp
  exact h2.trans (List.mergeSort_of_pairwise hks)
 have hlen : ss.length = l.length:=by
  have h3:=hp.length_eq
  rw [h3,List.length_map]
 rw [h1,hlen] at hrow
 have hreps : Reps (Kd.string.K w') 1 l ((l.map fun s=>s.data.toList).map Go.Proofs.encStr):=by
  refine ⟨by rw [List.length_map,List.length_map,Nat.mul_one],fun j p hj=>?_⟩
  obtain ⟨hlt,hxe⟩:=List.getElem?_eq_some_iff.1 hj
  show _ = _
  rw [Nat.mul_one,List.drop_eq_getElem_cons (by rw [List.length_map,List.length_map];exact hlt),List.getElem_map,List.getElem_map,hxe]
  rfl
 have hcap:=hrow.2
 obtain ⟨Ak,ck,rfl,hC⟩:=own_reads_row hrow hreps rfl
 refine ⟨Ak,ck,rfl,?_,hC,hb⟩
 rcases hcap with ⟨h_,h0⟩ | ⟨g,cap,cur,h_,_,_,hle,_⟩
 ·omega
 ·injection h_ with _ _ h3
  omega
end Go.Proofs.YtmlebgikdegjjaaGreatDoor.Hd
