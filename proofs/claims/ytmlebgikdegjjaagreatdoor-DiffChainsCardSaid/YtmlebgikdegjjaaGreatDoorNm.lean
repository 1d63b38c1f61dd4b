/- Names and selectors, by definition: lists of bytes alone. -/
import Derived.WalkKit
import Derived.Below
import Derived.Deep.Draws
import Derived.Lib.SplitLaws
import Derived.Lib.SlTrimSet
namespace Go.Proofs.YtmlebgikdegjjaaGreatDoor.Nm
open Go.Lib Go.RowKit
def smB (b : UInt8) : Bool:=decide (97 ≤ b.toNat) && decide (b.toNat ≤ 122)
def lgB (b : UInt8) : Bool:=decide (65 ≤ b.toNat) && decide (b.toNat ≤ 90)
def dgB (b : UInt8) : Bool:=decide (48 ≤ b.toNat) && decide (b.toNat ≤ 57)
def isN (l : List UInt8) : Bool:=decide (1 ≤ l.length) && decide (l.length ≤ 40) && (smB (l.headD 0) || lgB (l.headD 0)) && l.all (fun b=>smB b || lgB b || dgB b)
def lowN (l : List UInt8) : Bool:=isN l && smB (l.headD 0)
def clsN (l : List UInt8) : Bool:=isN l && lgB (l.headD 0)
theorem calls_args {P : Program} {f : FuncId} {a a' : Array Value} {w : World} {Q : Ending → World → Prop} (h : a = a') (c : Calls P f a w Q) : Calls P f a' w Q:=h ▸ c
/-! ### '>' and '<=' on texts,as the print spells them -/
theorem less_turn : ∀ a b : List UInt8,(!(Op.bytesLess a b || a == b)) = Op.bytesLess b a
 | [],[]=>rfl
 | [],_ :: _=>rfl
 | _ :: _,[]=>rfl
 | a :: x,b :: y=>by
  unfold Op.bytesLess
  have ih:=less_turn x y
  rw [show ((a :: x) == (b :: y)) = (a == b && x == y) from rfl]
  by_cases h1 : a < b
  ·have h2 : ¬ b < a:=by rw [UInt8.lt_iff_toNat_lt] at *;omega
   have h3 : (b == a) = false:=beq_eq_false_iff_ne.2 (fun e=>by subst e;exact UInt8.lt_irrefl _ h1)
   rw [decide_eq_true h1,decide_eq_false h2,h3];rfl
  ·by_cases h2 : b < a
   ·have h3 : (a == b) = false:=beq_eq_false_iff_ne.2 (fun e=>by subst e;exact UInt8.lt_irrefl _ h2)
    rw [decide_eq_false h1,decide_eq_true h2,h3];rfl
   ·have e : a = b:=UInt8.toNat_inj.1 (by rw [UInt8.lt_iff_toNat_lt] at *;omega)
    subst e
    rw [decide_eq_false h1,show (a == a) = true from beq_self_eq_true a,Bool.true_and,Bool.true_and,Bool.false_or,Bool.false_or]
    exact ih
@[go_sem] theorem binOp_text_gtr (t : TypeId) (a b : ByteArray) : binOp .gtr t (.string a) (.string b) = pure (.bool (Op.bytesLess b.toList a.toList)):=by
 rw [← less_turn];simp [binOp,Op.stringOp]
@[go_sem] theorem binOp_text_leq (t : TypeId) (a b : ByteArray) : binOp .leq t (.string a) (.string b) = pure (.bool !(Op.bytesLess b.toList a.toList)):=by
 rw [← less_turn,Bool.not_not];simp [binOp,Op.stringOp]
@[go_sem] theorem binOp_text_geq (t : TypeId) (a b : ByteArray) : binOp .geq t (.string a) (.string b) = pure (.bool !(Op.bytesLess a.toList b.toList)):=by simp [binOp,Op.stringOp]
def MaxOk (w : World) : Prop:=∃ m,w.cell? ⟨0,0,none⟩ = some (.int .i64 m)
theorem MaxOk.below {w w' : World} (h : MaxOk w) (hb : Below w.heap.size w w') : MaxOk w':=by
 obtain ⟨m,hm⟩:=h
 exact ⟨m,(hb.cell (World.block_lt_of_cell? w _ hm)).trans hm⟩
theorem MaxOk.drewN {w : World} (h : MaxOk w) (n : Nat) : MaxOk (w.drewN n):=h
theorem MaxOk.drew {w : World} (h : MaxOk w) : MaxOk w.drew:=h
theorem MaxOk.alloc {w : World} (h : MaxOk w) (o : Obj) : MaxOk (w.alloc o):=h.below ((Below.refl _ _).alloc (Nat.le_refl _) o)
/-! ### What the walk of name.Is needs -/
def letBy (s : ByteArray) (pos : Nat) : Prop:=∀ i (h : i < s.size),i < pos → (smB s[i] || lgB s[i] || (decide (0 < i) && dgB s[i])) = true
theorem letBy_zero (s : ByteArray) : letBy s 0:=fun _ _ h=>absurd h (by omega)
theorem letBy_step {s : ByteArray} {pos : Nat} (h : letBy s pos) (hp : pos < s.size) (hc : (smB s[pos] || lgB s[pos] || (decide (0 < pos) && dgB s[pos])) = true) : letBy s (pos + 1):=by
 intro i hi hlt
 by_cases e : i = pos
 ·subst e;exact hc
 ·exact h i hi (by omega)
theorem len_data (s : ByteArray) : s.data.toList.length = s.size:=by rw [Array.length_toList];rfl
theorem get_data (s : ByteArray) (i : Nat) (h : i < s.size) : s.data.toList[i]'(by rw [len_data];exact h) = s[i]:=by
 rw [Array.getElem_toList];rfl
theorem head_data (s : ByteArray) (h : 0 < s.size) : s.data.toList.headD 0 = s[0]:=by
 rw [← get_data s 0 h,List.headD_eq_head?_getD,List.head?_eq_getElem?,List.getElem?_eq_getElem (by rw [len_data];exact h)]
 rfl
theorem isN_of {s : ByteArray} (h : letBy s s.size) : isN s.data.toList = (decide ((s.size : Int) ≥ 1) && decide ((s.size : Int) ≤ 40)):=by
 unfold isN
 rw [len_data]
 have e1 : decide ((s.size : Int) ≥ 1) = decide (1 ≤ s.size):=by rw [Bool.eq_iff_iff];simp;omega
 have e2 : decide ((s.size : Int) ≤ 40) = decide (s.size ≤ 40):=by rw [Bool.eq_iff_iff];simp;omega
 rw [e1,e2]
 by_cases h0 : 0 < s.size
 ·have hh : (smB (s.data.toList.headD 0) || lgB (s.data.toList.headD 0)) = true:=by
   rw [head_data s h0]
   have:=h 0 h0 h0
   simpa using this
  have ha : s.data.toList.all (fun b=>smB b || lgB b || dgB b) = true:=by
   rw [List.all_eq_true]
   intro b hb
   obtain ⟨i,hi,rfl⟩:=List.getElem_of_mem hb
   have hi' : i < s.size:=by rw [len_data] at hi;exact hi
   rw [get_data s i hi']
   have:=h i hi' hi'
   cases h1 : smB s[i] <;> cases h2 : lgB s[i] <;> cases h3 : dgB s[i] <;> simp_all
  rw [hh,ha,Bool.and_true,Bool.and_true]
 ·rw [decide_eq_false (show ¬ 1 ≤ s.size by omega)]
  rfl
theorem isN_not {s : ByteArray} {pos : Nat} (hp : pos < s.size) (hc : (smB s[pos] || lgB s[pos] || (decide (0 < pos) && dgB s[pos])) = false) : isN s.data.toList = false:=by
 unfold isN
 by_cases h0 : pos = 0
 ·subst h0
  have hh : (smB (s.data.toList.headD 0) || lgB (s.data.toList.headD 0)) = false:=by
   rw [head_data s hp]
   simpa using hc
  rw [hh,Bool.and_false,Bool.false_and]
 ·have ha : s.data.toList.all (fun b=>smB b || lgB b || dgB b) = false:=by
   rw [List.all_eq_false]
   refine ⟨s[pos],by rw [← get_data s pos hp];exact List.getElem_mem _,?_⟩
   rw [decide_eq_true (by omega)] at hc
   rw [Bool.true_and] at hc
   rw [hc];decide
  rw [ha,Bool.and_false]
def kwGo : List UInt8 → List UInt8 → Option (List (List UInt8))
 | cur,[]=>if cur = [] then some [] else none
 | cur,b :: r=>if b = 58 then (if lowN cur = true then (kwGo [] r).map ((cur ++ [58]) :: ·) else none) else kwGo (cur ++ [b]) r
def kwN (l : List UInt8) : List (List UInt8):=match kwGo [] l with | some ps=>if ps.length ≤ 10 then ps else [] | none=>[]
theorem kwGo_none : ∀ (l cur : List UInt8),(58 : UInt8) ∉ l → kwGo cur l = if cur ++ l = [] then some [] else none
 | [],cur,_=>by unfold kwGo;rw [List.append_nil]
 | b :: r,cur,h=>by
  have hb : b ≠ 58:=fun e=>h (e ▸ List.mem_cons_self)
  unfold kwGo
  rw [if_neg hb,kwGo_none r _ (fun e=>h (List.mem_cons_of_mem _ e)),if_neg (by simp),if_neg (by simp)]
theorem kwGo_cut : ∀ (p r cur : List UInt8),(58 : UInt8) ∉ p → kwGo cur (p ++ 58 :: r) = if lowN (cur ++ p) = true then (kwGo [] r).map ((cur ++ p ++ [58]) :: ·) else none
 | [],r,cur,_=>by
  rw [List.nil_append,List.append_nil]
  conv=>lhs;unfold kwGo
  rw [if_pos rfl]
 | b :: p,r,cur,h=>by
  have hb : b ≠ 58:=fun e=>h (e ▸ List.mem_cons_self)
  rw [List.cons_append]
  conv=>lhs;unfold kwGo
  rw [if_neg hb,kwGo_cut p r _ (fun e=>h (List.mem_cons_of_mem _ e))]
  simp only [List.append_assoc,List.cons_append,List.nil_append]
theorem index_cut58 : ∀ (p r : List UInt8),(58 : UInt8) ∉ p → indexByte (p ++ 58 :: r) 58 = (p.length : Int)
 | [],r,_=>by simp [indexByte]
 | b :: p,r,h=>by
  have hb : (b == 58) = false:=by simpa using fun e : b = 58=>h (e ▸ List.mem_cons_self)
  rw [List.cons_append]
  unfold indexByte
  rw [hb,index_cut58 p r (fun e=>h (List.mem_cons_of_mem _ e))]
  have : ((p.length : Int) == -1) = false:=by simp
  rw [this,List.length_cons]
  simp
theorem cut58 : ∀ (l : List UInt8),(58 : UInt8) ∈ l → ∃ p r,l = p ++ 58 :: r ∧ (58 : UInt8) ∉ p
 | [],h=>by cases h
 | b :: l,h=>by
  by_cases hb : b = 58
  ·exact ⟨[],l,by rw [hb];rfl,by simp⟩
  ·have h2 : (58 : UInt8) ∈ l:=by
    rcases List.mem_cons.1 h with e | e
    ·exact absurd e.symm hb
    ·exact e
   obtain ⟨p,r,e,hp⟩:=cut58 l h2
   exact ⟨b :: p,r,by rw [e];rfl,by simp [hp,Ne.symm hb]⟩
theorem trim58 (p : List UInt8) : trimSuffix (p ++ [58]) [58] = p:=by
 unfold trimSuffix hasSuffix
 rw [if_pos (by rw [List.isSuffixOf_iff_suffix];exact List.suffix_append _ _)]
 simp
def goodP (p : List UInt8) : Bool:=lowN (trimSuffix p [58])
def goKw (ps : List (List UInt8)) : List (List UInt8):=if ps.length < 2 ∨ 11 < ps.length ∨ ps.getLast? ≠ some [] then [] else if ps.dropLast.all goodP = true then ps.dropLast else []
theorem splitK_pieces : ∀ (k : Nat) (l : List UInt8),l.count 58 = k → (splitK [58] 1 k l).length = k + 1 ∧
  kwGo [] l = (if (splitK [58] 1 k l).getLast? = some [] ∧ (splitK [58] 1 k l).dropLast.all goodP = true then some (splitK [58] 1 k l).dropLast else none)
 | 0,l,h=>by
  have hn : (58 : UInt8) ∉ l:=List.count_eq_zero.1 h
  refine ⟨rfl,?_⟩
  rw [kwGo_none l [] hn,List.nil_append]
  unfold splitK
  by_cases e : l = []
  ·subst e;rfl
  ·rw [if_neg e,if_neg (by simp [e])]
 | k + 1,l,h=>by
  have hm : (58 : UInt8) ∈ l:=List.count_pos_iff.1 (by omega)
  obtain ⟨p,r,rfl,hp⟩:=cut58 l hm
  have hr : r.count 58 = k:=by
   rw [List.count_append,List.count_eq_zero.2 hp,List.count_cons_self] at h
   omega
  obtain ⟨hl,hk⟩:=splitK_pieces k r hr
  have es : splitK [58] 1 (k + 1) (p ++ 58 :: r) = (p ++ [58]) :: splitK [58] 1 k r:=by
   have e1 : index (p ++ 58 :: r) [58] = (p.length : Int):=by rw [index_one,index_cut58 p r hp]
   rw [show splitK [58] 1 (k + 1) (p ++ 58 :: r) = if index (p ++ 58 :: r) [58] == -1 then [p ++ 58 :: r] else (p ++ 58 :: r).take ((index (p ++ 58 :: r) [58]).toNat + 1) :: splitK [58] 1 k ((p ++ 58 :: r).drop ((index (p ++ 58 :: r) [58]).toNat + ([58] : List UInt8).length)) from rfl,e1,if_neg (by simp)]
   congr 1
   ·rw [show ((p.length : Int)).toNat + 1 = p.length + 1 from rfl,show p ++ 58 :: r = (p ++ [58]) ++ r by simp,List.take_left' (by simp)]
   ·rw [show ((p.length : Int)).toNat + ([58] : List UInt8).length = p.length + 1 from rfl,show p ++ 58 :: r = (p ++ [58]) ++ r by simp,List.drop_left' (by simp)]
  rw [es]
  obtain ⟨q,qs,hq⟩ : ∃ q qs,splitK [58] 1 k r = q :: qs:=by
   cases hs : splitK [58] 1 k r with
   | nil=>rw [hs] at hl;cases hl
   | cons q qs=>exact ⟨q,qs,rfl⟩
  refine ⟨by rw [List.length_cons,hl],?_⟩
  rw [kwGo_cut p r [] hp,List.nil_append,hk]
  rw [show ((p ++ [58]) :: splitK [58] 1 k r).getLast? = (splitK [58] 1 k r).getLast? by rw [hq,List.getLast?_cons_cons],
   show ((p ++ [58]) :: splitK [58] 1 k r).dropLast = (p ++ [58]) :: (splitK [58] 1 k r).dropLast by rw [hq];rfl,List.all_cons]
  have hg : goodP (p ++ [58]) = lowN p:=by unfold goodP;rw [trim58]
  rw [hg]
  cases hlow : lowN p with
  | false=>rw [if_neg (by decide),if_neg (by simp)]
  | true =>
   rw [if_pos rfl,Bool.true_and]
   by_cases hc : (splitK [58] 1 k r).getLast? = some [] ∧ (splitK [58] 1 k r).dropLast.all goodP = true
   ·rw [if_pos hc,if_pos hc];rfl
   ·rw [if_neg hc,if_neg hc];rfl
theorem goKw_kwN (l : List UInt8) : goKw (splitK [58] 1 (count l [58]) l) = kwN l:=by
 rw [count_one]
 obtain ⟨hl,hk⟩:=splitK_pieces (l.count 58) l rfl
 unfold goKw kwN
 rw [hk]
 generalize splitK [58] 1 (l.count 58) l = ps at hl
 by_cases hg : ps.getLast? = some []
 ·by_cases ha : ps.dropLast.all goodP = true
  ·have e : (if ps.getLast? = some [] ∧ ps.dropLast.all goodP = true then some ps.dropLast else none) = some ps.dropLast:=if_pos ⟨hg,ha⟩
   rw [e,if_pos ha]
   have hd : ps.dropLast.length = ps.length - 1:=List.length_dropLast
   by_cases h2 : ps.length < 2
   ·have : ps.dropLast = []:=List.length_eq_zero_iff.1 (by omega)
    rw [if_pos (Or.inl h2),this];rfl
   ·by_cases h11 : 11 < ps.length
    ·rw [if_pos (Or.inr (Or.inl h11))]
     show [] = if ps.dropLast.length ≤ 10 then ps.dropLast else []
     rw [if_neg (by omega)]
    ·rw [if_neg (fun h=>h.elim h2 (fun h=>h.elim h11 (fun h=>h hg)))]
     show ps.dropLast = if ps.dropLast.length ≤ 10 then ps.dropLast else []
     rw [if_pos (by omega)]
  ·have e : (if ps.getLast? = some [] ∧ ps.dropLast.all goodP = true then some ps.dropLast else none) = none:=if_neg (fun h=>ha h.2)
   rw [e,if_neg ha]
   split <;> rfl
 ·have e : (if ps.getLast? = some [] ∧ ps.dropLast.all goodP = true then some ps.dropLast else none) = none:=if_neg (fun h=>hg h.1)
  rw [e,if_pos (Or.inr (Or.inr hg))]
def binaries : List UInt8:=[43,45,42,47,60,62,61,126,38,44,64,37]
def binN (l : List UInt8) : Bool:=(decide (l.length = 1) || decide (l.length = 2)) && l.all (fun b=>binaries.contains b)
def kindN (l : List UInt8) : Int:=if lowN l = true then 1 else if binN l = true then 2 else if kwN l ≠ [] then 3 else 0
theorem dw_nil {p : UInt8 → Bool} : ∀ {l : List UInt8},l.dropWhile p = [] → ∀ x ∈ l,p x = true
 | [],_,x,hx=>by cases hx
 | b :: l,h,x,hx=>by
  cases hb : p b with
  | false=>rw [List.dropWhile_cons,if_neg (by rw [hb];decide)] at h;cases h
  | true =>
   rw [List.dropWhile_cons,if_pos hb] at h
   rcases List.mem_cons.1 hx with e | e
   ·rw [e];exact hb
   ·exact dw_nil h x e
theorem dw_all {p : UInt8 → Bool} : ∀ {l : List UInt8},(∀ x ∈ l,p x = true) → l.dropWhile p = []
 | [],_=>rfl
 | b :: l,h=>by
  rw [List.dropWhile_cons,if_pos (h b List.mem_cons_self)]
  exact dw_all (fun x hx=>h x (List.mem_cons_of_mem _ hx))
theorem dw_mem {p : UInt8 → Bool} : ∀ {l : List UInt8} {x : UInt8},x ∈ l → p x = false → x ∈ l.dropWhile p
 | b :: l,x,hx,h=>by
  rw [List.dropWhile_cons]
  rcases List.mem_cons.1 hx with e | e
  ·subst e;rw [if_neg (by rw [h];decide)];exact List.mem_cons_self
  ·split
   ·exact dw_mem e h
   ·exact List.mem_cons_of_mem _ e
theorem trimS_all (l cs : List UInt8) : (trimS l cs = []) ↔ l.all (fun b=>cs.contains b) = true:=by
 unfold trimS trimLeftS trimRightS
 constructor
 ·intro h
  have h':=dw_nil h
  rw [List.all_eq_true]
  intro b hb
  cases hc : cs.contains b with
  | true=>rfl
  | false =>
   have h1 : b ∈ (l.reverse.dropWhile (cs.contains ·)).reverse:=by
    rw [List.mem_reverse]
    exact dw_mem (List.mem_reverse.2 hb) hc
   have h2:=h' b h1
   rw [hc] at h2
   cases h2
 ·intro h
  rw [List.all_eq_true] at h
  have : l.reverse.dropWhile (cs.contains ·) = []:=by
   exact dw_all (fun x hx=>h x (by simpa using hx))
  rw [this];rfl
end Go.Proofs.YtmlebgikdegjjaaGreatDoor.Nm
