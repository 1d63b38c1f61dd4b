/- The plain values of definitions that the snapshots' laws lean on. -/
import Derived.Test.YtmlebgikdegjjaaGreatDoorPAllx2
import Derived.Test.YtmlebgikdegjjaaGreatDoorPAllx1
import Derived.Test.YtmlebgikdegjjaaGreatDoorPAllx6
import Derived.Test.YtmlebgikdegjjaaGreatDoorPAllx7
import Derived.Test.YtmlebgikdegjjaaGreatDoorPAllx4
import Derived.Test.YtmlebgikdegjjaaGreatDoorPAllx8
import Derived.Test.YtmlebgikdegjjaaGreatDoorPAllx3
namespace Go.Proofs.YtmlebgikdegjjaaGreatDoor.PAll
open Go.RowKit Go.Proofs.YtmlebgikdegjjaaGreatDoorW.PrintWords Go.Proofs.YtmlebgikdegjjaaGreatDoorW.PrintLast
set_option linter.unusedVariables false
set_option linter.unusedSimpArgs false
abbrev BL (s : ByteArray) : List UInt8:=s.data.toList
abbrev mkB (l : List UInt8) : ByteArray:=⟨l.toArray⟩
theorem mk_BL (s : ByteArray) : mkB (BL s) = s:=by simp [mkB,BL]
theorem BL_len (s : ByteArray) : (BL s).length = s.size:=Nm.len_data s
theorem BL_inj {s t : ByteArray} (h : BL s = BL t) : s = t:=by rw [← mk_BL s,← mk_BL t,h]
theorem toList_BL (s : ByteArray) : s.toList = BL s:=Lib.toList_data s
theorem bt_BL (s : ByteArray) (i : Nat) (h : i < s.size) : bt s (i : Int) = (((BL s)[i]'(by rw [BL_len];exact h)).toNat : Int):=by
 rw [Nm.get_data s i h]
 have:=bt_at s (i : Int)
 simp only [Int.toNat_natCast] at this
 exact (this h).symm
theorem wrap_succ {i : Int} {n : Nat} (h0 : 0 ≤ i) (h : i < (n : Int)) (hn : n ≤ 140737488355328) : wrap64 (i + 1) = i + 1:=by
 unfold wrap64;omega
theorem ev_out {α : Type} {g : Nat → Option α} {r : α} (h : Ev g r) : ∃ K,∀ k,K ≤ k → g k = some r:=h
theorem ev_mk {α : Type} {g : Nat → Option α} {r : α} (K : Nat) (h : ∀ k,K ≤ k → g k = some r) : Ev g r:=⟨K,h⟩
theorem ev_mk1 {α : Type} {g : Nat → Option α} {r : α} (K : Nat) (h : ∀ m,K ≤ m → g (m + 1) = some r) : Ev g r :=
 ⟨K + 1,fun n hn=>by
  obtain ⟨m,rfl⟩ : ∃ m,n = m + 1:=⟨n - 1,by omega⟩
  exact h m (by omega)⟩
theorem sm_val (b : UInt8) : r06_small.f (b.toNat : Int) = some (Nm.smB b):=by
 unfold r06_small.f Nm.smB
 by_cases h : 97 ≤ b.toNat
 ·rw [if_pos (by omega)];simp [h];omega
 ·rw [if_neg (by omega)];simp [h]
theorem let_val (b : UInt8) : r06_letter.f (b.toNat : Int) = some (Nm.smB b || Nm.lgB b):=by
 unfold r06_letter.f
 rw [sm_val,Option.bind_some]
 cases h : Nm.smB b with
 | true=>rfl
 | false =>
  rw [if_neg (by decide),Bool.false_or]
  unfold Nm.lgB
  by_cases h : 65 ≤ b.toNat
  ·rw [if_pos (by omega)];simp [h];omega
  ·rw [if_neg (by omega)];simp [h]
def okB (b : UInt8) : Bool:=Nm.smB b || Nm.lgB b || Nm.dgB b
theorem Is_l0 (s : ByteArray) (hs : s.size ≤ 140737488351232) : ∀ (d i : Nat),s.size - i = d → i ≤ s.size → Ev (fun k=>r06_Is.l0 k s (i : Int)) (((BL s).drop i).all okB)
 | 0,i,hd,hi=>by
  refine Ev.step (f:=fun _=>some true) (fun k=>?_) ?_
  ·simp only [r06_Is.l0];rw [if_neg (by omega)]
  ·rw [List.drop_eq_nil_of_le (by rw [BL_len];omega)];exact Ev.now _
 | d + 1,i,hd,hi=>by
  have hlt : i < s.size:=by omega
  have ih:=Is_l0 s hs d (i + 1) (by omega) (by omega)
  have hb:=bt_BL s i hlt
  rw [List.drop_eq_getElem_cons (by rw [BL_len];exact hlt),List.all_cons]
  generalize (BL s)[i]'(by rw [BL_len];exact hlt) = b at *
  have hw : wrap64 ((i : Int) + 1) = ((i + 1 : Nat) : Int):=wrap_succ (by omega) (show (i : Int) < (s.size : Int) by omega) (by omega)
  by_cases h1 : (Nm.smB b || Nm.lgB b) = true
  ·refine Ev.step (fun k=>?_) (by unfold okB;rw [h1,Bool.true_or,Bool.true_and];exact ih)
   simp only [r06_Is.l0]
   rw [if_pos (by omega),if_pos (by omega),hb,let_val,Option.bind_some,if_pos h1,hw]
  ·have h1':=Bool.eq_false_iff.2 h1
   by_cases h2 : Nm.dgB b = true
   ·refine Ev.step (fun k=>?_) (by unfold okB;rw [h2,Bool.or_true,Bool.true_and];exact ih)
    simp only [r06_Is.l0]
    unfold Nm.dgB at h2
    rw [Bool.and_eq_true,decide_eq_true_eq,decide_eq_true_eq] at h2
    rw [if_pos (by omega),if_pos (by omega),hb,let_val,Option.bind_some,if_neg h1,if_neg (by omega),if_neg (by omega),hw]
   ·refine Ev.step (f:=fun _=>some false) (fun k=>?_) (by unfold okB;rw [h1',Bool.eq_false_iff.2 h2];exact Ev.now _)
    simp only [r06_Is.l0]
    unfold Nm.dgB at h2
    rw [Bool.and_eq_true,decide_eq_true_eq,decide_eq_true_eq] at h2
    rw [if_pos (by omega),if_pos (by omega),hb,let_val,Option.bind_some,if_neg h1]
    by_cases h3 : (b.toNat : Int) < 48
    ·rw [if_pos h3]
    ·rw [if_neg h3,if_pos (by omega)]
theorem refIs_val (s : ByteArray) (hs : s.size ≤ 140737488351232) : Ev (fun k=>r06_Is.f k s) (Nm.isN (BL s)):=by
 have hj : Ev (fun k=>r06_Is.j0 k s true) false:=Ev.step (f:=fun _=>some false) (fun k=>by rw [r06_Is.j0,if_pos rfl]) (Ev.now _)
 by_cases h1 : (s.size : Int) < 1
 ·refine Ev.congr (f:=fun k=>r06_Is.j0 k s true) (fun k=>by unfold r06_Is.f;rw [if_pos h1]) ?_
  have e : Nm.isN (BL s) = false:=by unfold Nm.isN;rw [BL_len,decide_eq_false (by omega)];rfl
  rw [e];exact hj
 ·by_cases h2 : (s.size : Int) > 40
  ·refine Ev.congr (f:=fun k=>r06_Is.j0 k s true) (fun k=>by unfold r06_Is.f;rw [if_neg h1,if_pos h2]) ?_
   have e : Nm.isN (BL s) = false:=by unfold Nm.isN;rw [BL_len,decide_eq_false (show ¬ s.size ≤ 40 by omega),Bool.and_false];rfl
   rw [e];exact hj
  ·have hb:=bt_BL s 0 (by omega)
   have hh : (BL s).headD 0 = (BL s)[0]'(by rw [BL_len];omega):=by
    rw [List.headD_eq_head?_getD,List.head?_eq_getElem?,List.getElem?_eq_getElem (by rw [BL_len];omega)];rfl
   have e : Nm.isN (BL s) = ((Nm.smB ((BL s)[0]'(by rw [BL_len];omega)) || Nm.lgB ((BL s)[0]'(by rw [BL_len];omega))) && (BL s).all okB):=by
    unfold Nm.isN;rw [hh,decide_eq_true (show 1 ≤ (BL s).length by rw [BL_len];omega),decide_eq_true (show (BL s).length ≤ 40 by rw [BL_len];omega),Bool.true_and,Bool.true_and];rfl
   rw [e]
   generalize (BL s)[0]'(by rw [BL_len];omega) = b at *
   refine Ev.congr (f:=fun k=>r06_Is.j0 k s (!(Nm.smB b || Nm.lgB b))) (fun k=>by unfold r06_Is.f;rw [if_neg h1,if_neg h2,if_pos (by omega),show (0 : Int) = ((0 : Nat) : Int) from rfl,hb,let_val,Option.bind_some]) ?_
   cases h3 : (Nm.smB b || Nm.lgB b) with
   | false=>exact hj
   | true =>
    refine Ev.step (fun k=>?_) (Is_l0 s hs s.size 0 rfl (Nat.zero_le _))
    rw [r06_Is.j0,if_neg (by decide)];rfl
theorem rdOf_get (l : List ByteArray) (i : Nat) (h : i < l.length) : rdOf ByteArray.empty l (i : Int) = l[i]:=by
 unfold rdOf;simp [List.getD_eq_getElem?_getD,h]
def inB (l : List ByteArray) (s : ByteArray) : Bool:=l.any fun x=>decide (x = s)
theorem refIn_l0 (l : List ByteArray) (s : ByteArray) (hl : l.length ≤ 140737488355328) : ∀ (d i : Nat),l.length - i = d → i ≤ l.length → Ev (fun k=>r06_In.l0 k l s (i : Int)) (inB (l.drop i) s)
 | 0,i,hd,hi=>by
  refine Ev.step (f:=fun _=>some false) (fun k=>?_) ?_
  ·simp only [r06_In.l0];rw [if_neg (by omega)]
  ·rw [List.drop_eq_nil_of_le (by omega)];exact Ev.now _
 | d + 1,i,hd,hi=>by
  have hlt : i < l.length:=by omega
  have ih:=refIn_l0 l s hl d (i + 1) (by omega) (by omega)
  have hw : wrap64 ((i : Int) + 1) = ((i + 1 : Nat) : Int):=wrap_succ (by omega) (show (i : Int) < (l.length : Int) by omega) (by omega)
  rw [List.drop_eq_getElem_cons hlt]
  by_cases h1 : l[i] = s
  ·refine Ev.step (f:=fun _=>some true) (fun k=>?_) (by unfold inB;rw [List.any_cons,decide_eq_true h1];exact Ev.now _)
   simp only [r06_In.l0]
   rw [if_pos (by omega),if_pos (by omega),rdOf_get l i hlt,if_pos (by rw [h1])]
  ·rw [show inB (l[i] :: l.drop (i + 1)) s = inB (l.drop (i + 1)) s by unfold inB;rw [List.any_cons,decide_eq_false h1,Bool.false_or]]
   refine Ev.step (fun k=>?_) ih
   simp only [r06_In.l0]
   rw [if_pos (by omega),if_pos (by omega),rdOf_get l i hlt,if_neg (by rw [toList_BL,toList_BL];exact fun h=>h1 (BL_inj h)),hw]
theorem refIn_val (l : List ByteArray) (s : ByteArray) (hl : l.length ≤ 140737488355328) : Ev (fun k=>r06_In.f k l s) (inB l s):=refIn_l0 l s hl _ 0 rfl (Nat.zero_le _)
theorem Same_l0 (a b : List ByteArray) (hl : a.length ≤ 140737488355328) (he : a.length = b.length) : ∀ (d i : Nat),a.length - i = d → i ≤ a.length → Ev (fun k=>r01_Same.l0 k a b (i : Int)) (decide (a.drop i = b.drop i))
 | 0,i,hd,hi=>by
  refine Ev.step (f:=fun _=>some true) (fun k=>?_) ?_
  ·simp only [r01_Same.l0];rw [if_neg (by omega)]
  ·rw [List.drop_eq_nil_of_le (by omega),List.drop_eq_nil_of_le (by omega)];exact Ev.now _
 | d + 1,i,hd,hi=>by
  have hlt : i < a.length:=by omega
  have ih:=Same_l0 a b hl he d (i + 1) (by omega) (by omega)
  have hw : wrap64 ((i : Int) + 1) = ((i + 1 : Nat) : Int):=wrap_succ (by omega) (show (i : Int) < (a.length : Int) by omega) (by omega)
  rw [List.drop_eq_getElem_cons hlt,List.drop_eq_getElem_cons (show i < b.length by omega)]
  by_cases h1 : a[i] = b[i]'(by omega)
  ·have e : decide (a[i] :: a.drop (i + 1) = b[i]'(by omega) :: b.drop (i + 1)) = decide (a.drop (i + 1) = b.drop (i + 1)):=by
    rw [Bool.eq_iff_iff,decide_eq_true_eq,decide_eq_true_eq]
    exact ⟨fun h=>(List.cons.inj h).2,fun h=>by rw [h1,h]⟩
   rw [e]
   refine Ev.step (fun k=>?_) ih
   simp only [r01_Same.l0]
   rw [if_pos (by omega),if_pos (by omega),if_pos (by omega),rdOf_get a i hlt,rdOf_get b i (by omega),if_pos (by rw [h1]),hw]
  ·refine Ev.step (f:=fun _=>some false) (fun k=>?_) (by rw [decide_eq_false (fun h=>h1 (List.cons.inj h).1)];exact Ev.now _)
   simp only [r01_Same.l0]
   rw [if_pos (by omega),if_pos (by omega),if_pos (by omega),rdOf_get a i hlt,rdOf_get b i (by omega),if_neg (by rw [toList_BL,toList_BL];exact fun h=>h1 (BL_inj h))]
theorem Same_val (a b : List ByteArray) (hl : a.length ≤ 140737488355328) : Ev (fun k=>r01_Same.f k a b) (decide (a = b)):=by
 by_cases h : a.length = b.length
 ·refine Ev.congr (fun k=>?_) (Same_l0 a b hl h _ 0 rfl (Nat.zero_le _))
  unfold r01_Same.f;rw [if_pos (by omega)];rfl
 ·refine Ev.congr (f:=fun _=>some false) (fun k=>?_) (by rw [decide_eq_false (fun e=>h (by rw [e]))];exact Ev.now _)
  unfold r01_Same.f;rw [if_neg (by omega)]
def finish (out : List ByteArray) : Option (List (List UInt8)) → List ByteArray
 | some ps=>if out.length + ps.length ≤ 10 then out ++ ps.map mkB else []
 | none=>[]
theorem finish_cons (out : List ByteArray) (p : List UInt8) (o : Option (List (List UInt8))) : finish out (o.map (p :: ·)) = finish (out ++ [mkB p]) o:=by
 cases o with
 | none=>rfl
 | some ps =>
  show (if out.length + (p :: ps).length ≤ 10 then out ++ (p :: ps).map mkB else []) = if (out ++ [mkB p]).length + ps.length ≤ 10 then (out ++ [mkB p]) ++ ps.map mkB else []
  rw [List.length_cons,List.length_append,List.length_singleton,List.map_cons,List.append_assoc,List.singleton_append,show out.length + (ps.length + 1) = out.length + 1 + ps.length by omega]
theorem extract_BL (s : ByteArray) (a b : Nat) : BL (s.extract a b) = ((BL s).take b).drop a:=by
 show (s.extract a b).data.toList = _
 rw [Lib.extract_data,List.drop_take]
theorem lowN_small {p : ByteArray} (h : Nm.isN (BL p) = true) : ∃ h0 : 0 < p.size,Nm.lowN (BL p) = Nm.smB ((BL p)[0]'(by rw [BL_len];exact h0)):=by
 have h0 : 0 < p.size:=by
  have h1:=h
  unfold Nm.isN at h1
  simp only [Bool.and_eq_true,decide_eq_true_eq] at h1
  rw [BL_len] at h1
  omega
 refine ⟨h0,?_⟩
 unfold Nm.lowN
 rw [h,Bool.true_and,List.headD_eq_head?_getD,List.head?_eq_getElem?,List.getElem?_eq_getElem (by rw [BL_len];exact h0)]
 rfl
theorem Keywords_l0 (s : ByteArray) (hs : s.size ≤ 4294967280) : ∀ (d i a : Nat) (out : List ByteArray),s.size - i = d → i ≤ s.size → a ≤ i → out.length ≤ i →
  Ev (fun k=>r06_Keywords.l0 k s out (a : Int) (i : Int)) (finish out (Nm.kwGo (((BL s).take i).drop a) ((BL s).drop i)))
 | 0,i,a,out,hd,hi,ha,ho=>by
  rw [show (BL s).drop i = [] from List.drop_eq_nil_of_le (by rw [BL_len];omega)]
  unfold Nm.kwGo
  by_cases h1 : a = s.size
  ·have e : ((BL s).take i).drop a = []:=List.drop_eq_nil_of_le (by rw [List.length_take,BL_len];omega)
   rw [e,if_pos rfl]
   refine Ev.congr (f:=fun k=>r06_Keywords.l0 k s out (a : Int) (i : Int)) (fun _=>rfl) ?_
   by_cases h2 : (out.length : Int) > 10
   ·refine Ev.step (f:=fun _=>some []) (fun k=>?_) (by rw [show finish out (some []) = [] from if_neg (by simp;omega)];exact Ev.now _)
    simp only [r06_Keywords.l0];rw [if_neg (by omega),if_pos (by omega),if_pos h2]
   ·refine Ev.step (f:=fun _=>some out) (fun k=>?_) (by rw [show finish out (some []) = out from (if_pos (by simp;omega)).trans (List.append_nil _)];exact Ev.now _)
    simp only [r06_Keywords.l0];rw [if_neg (by omega),if_pos (by omega),if_neg h2]
  ·have e : ((BL s).take i).drop a ≠ []:=by
    intro h
    have h2:=congrArg List.length h
    rw [List.length_drop,List.length_take,BL_len,List.length_nil] at h2
    omega
   rw [if_neg e]
   refine Ev.step (f:=fun _=>some []) (fun k=>?_) (Ev.now _)
   simp only [r06_Keywords.l0];rw [if_neg (by omega),if_neg (by omega)]
 | d + 1,i,a,out,hd,hi,ha,ho=>by
  have hlt : i < s.size:=by omega
  have hb:=bt_BL s i hlt
  have hw : wrap64 ((i : Int) + 1) = ((i + 1 : Nat) : Int):=wrap_succ (by omega) (show (i : Int) < (s.size : Int) by omega) (by omega)
  have ht : (BL s).take (i + 1) = (BL s).take i ++ [(BL s)[i]'(by rw [BL_len];exact hlt)]:=List.take_succ_eq_append_getElem (by rw [BL_len];exact hlt)
  have hd1 : ((BL s).take (i + 1)).drop a = ((BL s).take i).drop a ++ [(BL s)[i]'(by rw [BL_len];exact hlt)]:=by
   rw [ht,List.drop_append_of_le_length (by rw [List.length_take,BL_len];omega)]
  rw [List.drop_eq_getElem_cons (show i < (BL s).length by rw [BL_len];exact hlt)]
  have hx : BL (s.extract a i) = ((BL s).take i).drop a:=extract_BL s a i
  have hx1 : s.extract a (i + 1) = mkB (((BL s).take i).drop a ++ [(BL s)[i]'(by rw [BL_len];exact hlt)]):=BL_inj ((extract_BL s a (i + 1)).trans hd1)
  generalize (BL s)[i]'(by rw [BL_len];exact hlt) = b at *
  unfold Nm.kwGo
  by_cases h58 : b = 58
  ·have hbi : bt s (i : Int) = 58:=by rw [hb,h58];rfl
   subst h58
   rw [if_pos rfl,← hx]
   obtain ⟨K,hI⟩:=ev_out (refIs_val (s.extract a i) (by rw [ByteArray.size_extract];omega))
   cases hn : Nm.isN (BL (s.extract a i)) with
   | false =>
    have e : Nm.lowN (BL (s.extract a i)) = false:=by unfold Nm.lowN;rw [hn];rfl
    rw [e,if_neg (by decide)]
    refine ev_mk1 (K) (fun m hm=>?_)
    have hI2:=hI m (by omega)
    rw [hn] at hI2
    rw [r06_Keywords.l0,if_pos (by omega),if_pos (by omega),if_pos hbi,if_pos (by omega),if_pos (by omega),if_pos (by omega)]
    simp only [Int.toNat_natCast]
    rw [hI2,Option.bind_some,if_neg (by decide)]
    rfl
   | true =>
    obtain ⟨h0,e⟩:=lowN_small hn
    have hb0:=bt_BL (s.extract a i) 0 h0
    rw [e]
    generalize (BL (s.extract a i))[0]'(by rw [BL_len];exact h0) = b0 at *
    cases hsm : Nm.smB b0 with
    | false =>
     rw [if_neg (by decide)]
     refine ev_mk1 (K) (fun m hm=>?_)
     have hI2:=hI m (by omega)
     rw [hn] at hI2
     rw [r06_Keywords.l0,if_pos (by omega),if_pos (by omega),if_pos hbi,if_pos (by omega),if_pos (by omega),if_pos (by omega)]
     simp only [Int.toNat_natCast]
     rw [hI2,Option.bind_some,if_pos rfl,if_pos (by omega),show (0 : Int) = ((0 : Nat) : Int) from rfl,hb0,sm_val,Option.bind_some,hsm,if_neg (by decide)]
     rfl
    | true =>
     rw [if_pos rfl,finish_cons,hx,← hx1]
     obtain ⟨K2,ih⟩:=ev_out (Keywords_l0 s hs d (i + 1) (i + 1) (out ++ [s.extract a (i + 1)]) (by omega) (by omega) (Nat.le_refl _) (by rw [List.length_append,List.length_singleton];omega))
     refine ev_mk1 (max K K2) (fun m hm=>?_)
     have hI2:=hI m (by omega)
     rw [hn] at hI2
     have ih2:=ih m (by omega)
     rw [r06_Keywords.l0,if_pos (by omega),if_pos (by omega),if_pos hbi,if_pos (by omega),if_pos (by omega),if_pos (by omega)]
     simp only [Int.toNat_natCast]
     rw [hI2,Option.bind_some,if_pos rfl,if_pos (by omega),show (0 : Int) = ((0 : Nat) : Int) from rfl,hb0,sm_val,Option.bind_some,hsm,if_pos rfl,hw,if_pos (by omega),if_pos (by omega),if_pos (by omega)]
     simp only [Int.toNat_natCast]
     rw [ih2,List.drop_eq_nil_of_le (by rw [List.length_take];omega)]
  ·have hbi : bt s (i : Int) ≠ 58:=by
    rw [hb];intro h
    exact h58 (UInt8.toNat_inj.1 (by show b.toNat = 58;omega))
   rw [if_neg h58,← hd1]
   obtain ⟨K2,ih⟩:=ev_out (Keywords_l0 s hs d (i + 1) a out (by omega) (by omega) (by omega) (by omega))
   refine ev_mk1 (K2) (fun m hm=>?_)
   rw [r06_Keywords.l0,if_pos (by omega),if_pos (by omega),if_neg hbi,hw]
   exact ih m (by omega)
theorem Keywords_val (s : ByteArray) (hs : s.size ≤ 4294967280) : Ev (fun k=>r06_Keywords.f k s) ((Nm.kwN (BL s)).map mkB):=by
 have h:=Keywords_l0 s hs _ 0 0 [] rfl (Nat.zero_le _) (Nat.le_refl _) (Nat.zero_le _)
 have e : finish [] (Nm.kwGo (((BL s).take 0).drop 0) ((BL s).drop 0)) = (Nm.kwN (BL s)).map mkB:=by
  unfold Nm.kwN finish
  rw [List.take_zero,List.drop_nil,List.drop_zero]
  cases Nm.kwGo [] (BL s) with
  | none=>rfl
  | some ps =>
   show (if (0 : Nat) + ps.length ≤ 10 then [] ++ ps.map mkB else []) = List.map mkB (if ps.length ≤ 10 then ps else [])
   rw [Nat.zero_add,List.nil_append]
   split <;> rfl
 rw [e] at h
 exact h
theorem lowN_ref (s : ByteArray) (hs : s.size ≤ 140737488351232) (G : Nat → Bool → Option Int) (r : Int) (h : Ev (fun k=>G k (Nm.lowN (BL s))) r) :
  Ev (fun k=>(r06_Is.f k s).bind fun t=>if t = true then (if 0 < (s.size : Int) then ((r06_small.f (bt s 0)).bind fun t=>G k t) else none) else G k false) r:=by
 obtain ⟨K,hI⟩:=ev_out (refIs_val s hs)
 obtain ⟨K2,h⟩:=ev_out (h)
 refine ev_mk (max K K2) (fun k hk=>?_)
 rw [hI k (by omega),Option.bind_some]
 have h2:=h k (by omega)
 cases hn : Nm.isN (BL s) with
 | false =>
  rw [if_neg (by decide)]
  have e : Nm.lowN (BL s) = false:=by unfold Nm.lowN;rw [hn];rfl
  rw [e] at h2;exact h2
 | true =>
  obtain ⟨h0,e⟩:=lowN_small hn
  have hb0:=bt_BL s 0 h0
  rw [if_pos rfl,if_pos (by omega),show (0 : Int) = ((0 : Nat) : Int) from rfl,hb0,sm_val,Option.bind_some,← e]
  exact h2
def bins : List ByteArray:=[⟨#[43]⟩,⟨#[45]⟩,⟨#[42]⟩,⟨#[47]⟩,⟨#[60]⟩,⟨#[62]⟩,⟨#[61]⟩,⟨#[126]⟩,⟨#[38]⟩,⟨#[44]⟩,⟨#[64]⟩,⟨#[37]⟩]
theorem bins_eq : bins = Nm.binaries.map fun b=>mkB [b]:=rfl
theorem inB_bins (b : UInt8) : inB bins (mkB [b]) = Nm.binaries.contains b:=by
 rw [bins_eq]
 unfold inB
 rw [List.any_map,List.contains_eq_any_beq]
 congr 1
 funext x
 show decide (mkB [x] = mkB [b]) = (b == x)
 rw [Bool.eq_iff_iff,decide_eq_true_eq,beq_iff_eq]
 constructor
 ·intro h
  have h2:=congrArg BL h
  exact (List.cons.inj h2).1.symm
 ·rintro rfl;rfl
theorem Kind_l0 (s : ByteArray) (hs : s.size ≤ 4294967280) (hk : Ev (fun k=>(r06_Keywords.f k s).bind fun t=>if (t.length : Int) > 0 then some 3 else some 0) (if Nm.kwN (BL s) ≠ [] then (3 : Int) else 0)) : ∀ (d i : Nat) (ok : Bool),s.size - i = d → i ≤ s.size →
  Ev (fun k=>r06_Kind.l0 k s ok (i : Int)) (if (ok && ((BL s).drop i).all fun b=>Nm.binaries.contains b) = true then 2 else if Nm.kwN (BL s) ≠ [] then (3 : Int) else 0)
 | 0,i,ok,hd,hi=>by
  rw [show (BL s).drop i = [] from List.drop_eq_nil_of_le (by rw [BL_len];omega),List.all_nil,Bool.and_true]
  cases ok with
  | true =>
   refine Ev.step (f:=fun _=>some 2) (fun k=>?_) (by rw [if_pos rfl];exact Ev.now _)
   rw [r06_Kind.l0,if_neg (by omega),if_pos rfl]
  | false =>
   refine Ev.step (fun k=>?_) (by rw [if_neg (by decide)];exact hk)
   rw [r06_Kind.l0,if_neg (by omega),if_neg (by decide)]
 | d + 1,i,ok,hd,hi=>by
  have hlt : i < s.size:=by omega
  have hw : wrap64 ((i : Int) + 1) = ((i + 1 : Nat) : Int):=wrap_succ (by omega) (show (i : Int) < (s.size : Int) by omega) (by omega)
  rw [List.drop_eq_getElem_cons (show i < (BL s).length by rw [BL_len];exact hlt),List.all_cons]
  have ht : (BL s).take (i + 1) = (BL s).take i ++ [(BL s)[i]'(by rw [BL_len];exact hlt)]:=List.take_succ_eq_append_getElem (by rw [BL_len];exact hlt)
  have hx1 : s.extract i (i + 1) = mkB [(BL s)[i]'(by rw [BL_len];exact hlt)]:=BL_inj ((extract_BL s i (i + 1)).trans (by rw [ht,List.drop_left' (by rw [List.length_take,BL_len];omega)]))
  generalize (BL s)[i]'(by rw [BL_len];exact hlt) = b at *
  cases ok with
  | false =>
   refine Ev.step (fun k=>?_) (Kind_l0 s hs hk d (i + 1) false (by omega) (by omega))
   rw [r06_Kind.l0,if_pos (by omega),if_neg (by decide),hw]
  | true =>
   obtain ⟨K,hI⟩:=ev_out (refIn_val bins (s.extract i (i + 1)) (by decide))
   obtain ⟨K2,ih⟩:=ev_out (Kind_l0 s hs hk d (i + 1) (Nm.binaries.contains b) (by omega) (by omega))
   refine ev_mk1 (max K K2) (fun m hm=>?_)
   have hI2:=hI m (by omega)
   rw [hx1,inB_bins] at hI2
   have e:=ih m (by omega)
   rw [Bool.true_and,r06_Kind.l0,if_pos (by omega),if_pos rfl,if_pos (by omega),hw,if_pos (by omega),if_pos (by omega)]
   simp only [Int.toNat_natCast]
   rw [hx1]
   show ((r06_In.f m bins (mkB [b])).bind _) = _
   rw [hI2,Option.bind_some]
   exact e
theorem map_nil_iff (l : List (List UInt8)) : ((l.map mkB).length : Int) > 0 ↔ l ≠ []:=by
 cases l <;> simp
theorem kw_if (s : ByteArray) (hs : s.size ≤ 4294967280) : Ev (fun k=>(r06_Keywords.f k s).bind fun t=>if (t.length : Int) > 0 then some 3 else some 0) (if Nm.kwN (BL s) ≠ [] then (3 : Int) else 0):=by
 refine Ev.bind (Keywords_val s hs) ⟨0,fun _ _=>?_⟩
 by_cases h : Nm.kwN (BL s) ≠ []
 ·rw [if_pos h,if_pos ((map_nil_iff _).2 h)]
 ·rw [if_neg h,if_neg (fun e=>h ((map_nil_iff _).1 e))]
theorem refKind_val (s : ByteArray) (hs : s.size ≤ 4294967280) : Ev (fun k=>r06_Kind.f k s) (Nm.kindN (BL s)):=by
 refine Ev.congr (fun k=>by unfold r06_Kind.f;rfl) (lowN_ref s (by omega) (fun k t=>r06_Kind.j0 k s t) _ ?_)
 unfold Nm.kindN
 cases hl : Nm.lowN (BL s) with
 | true=>exact Ev.step (f:=fun _=>some 1) (fun k=>by rw [r06_Kind.j0,if_pos rfl]) (Ev.now _)
 | false =>
  rw [if_neg (by decide)]
  have hl0:=Kind_l0 s hs (kw_if s hs) _ 0 true rfl (Nat.zero_le _)
  rw [Bool.true_and,List.drop_zero] at hl0
  have hj1 : ∀ c : Bool,Ev (fun k=>r06_Kind.j1 k s c) (if (c && (BL s).all fun b=>Nm.binaries.contains b) = true then 2 else if Nm.kwN (BL s) ≠ [] then (3 : Int) else 0):=by
   intro c
   cases c with
   | true =>
    rw [Bool.true_and]
    exact Ev.step (fun k=>by rw [r06_Kind.j1,if_pos rfl];rfl) hl0
   | false =>
    rw [Bool.false_and,if_neg (by decide)]
    exact Ev.step (fun k=>by rw [r06_Kind.j1,if_neg (by decide)]) (kw_if s hs)
  unfold Nm.binN
  rw [BL_len]
  by_cases h1 : s.size = 1
  ·rw [decide_eq_true h1,Bool.true_or]
   exact Ev.step (fun k=>by rw [r06_Kind.j0,if_neg (by decide),if_pos (by omega)]) (hj1 true)
  ·rw [decide_eq_false h1,Bool.false_or]
   refine Ev.step (fun k=>?_) (hj1 (decide (s.size = 2)))
   rw [r06_Kind.j0,if_neg (by decide),if_neg (by omega)]
   congr 1
   rw [Bool.eq_iff_iff,beq_iff_eq,decide_eq_true_eq];omega
theorem kind_cases (l : List UInt8) : Nm.kindN l = 0 ∨ Nm.kindN l = 1 ∨ Nm.kindN l = 2 ∨ Nm.kindN l = 3:=by
 unfold Nm.kindN
 split
 ·exact .inr (.inl rfl)
 ·split
  ·exact .inr (.inr (.inl rfl))
  ·split
   ·exact .inr (.inr (.inr rfl))
   ·exact .inl rfl
theorem binary_val (s : ByteArray) (hs : s.size ≤ 9223372036854775807) : name_binary.f s = some (Nm.binN (BL s)):=by
 have ht : strings_Trim.f s (⟨#[43,45,42,47,60,62,61,126,38,44,64,37]⟩ : ByteArray) = some ⟨(Lib.trimS (BL s) Nm.binaries).toArray⟩:=by
  unfold strings_Trim.f
  rw [if_pos (by rw [decide_eq_true hs];decide)]
  rfl
 have hb : ((⟨(Lib.trimS (BL s) Nm.binaries).toArray⟩ : ByteArray).toList == ([] : List UInt8)) = (BL s).all fun b=>Nm.binaries.contains b:=by
  rw [toList_BL]
  show (Lib.trimS (BL s) Nm.binaries == []) = _
  rw [Bool.eq_iff_iff,beq_iff_eq]
  exact Nm.trimS_all _ _
 unfold name_binary.f Nm.binN
 rw [ht,Option.bind_some,hb,BL_len]
 by_cases h1 : s.size = 1
 ·rw [if_pos (by omega),decide_eq_true h1];rfl
 ·by_cases h2 : s.size = 2
  ·rw [if_neg (by omega),if_pos (by omega),decide_eq_true h2,decide_eq_false h1];rfl
  ·rw [if_neg (by omega),if_neg (by omega),decide_eq_false h2,decide_eq_false h1];rfl
theorem kwds_val (s : ByteArray) (hs : s.size < 4294967281) : name_keywords.f s = some ((Nm.kwN (BL s)).map mkB):=by
 unfold name_keywords.f;rw [if_pos hs]
theorem Kind_val (s : ByteArray) (hs : s.size < 4294967281) : name_Kind.f s = some (Nm.kindN (BL s)):=by
 unfold name_Kind.f Nm.kindN
 rw [lower_val,Option.bind_some,binary_val s (by omega),Option.bind_some,kwds_val s hs,Option.bind_some]
 by_cases h1 : Nm.lowN (BL s) = true
 ·rw [if_pos h1,if_pos h1]
 ·rw [if_neg h1,if_neg h1]
  by_cases h2 : Nm.binN (BL s) = true
  ·rw [if_pos h2,if_pos h2]
  ·rw [if_neg h2,if_neg h2]
   by_cases h3 : Nm.kwN (BL s) ≠ []
   ·rw [if_pos h3,if_pos ((map_nil_iff _).2 h3)]
   ·rw [if_neg h3,if_neg (fun e=>h3 ((map_nil_iff _).1 e))]
theorem isN_pos {p : ByteArray} (h : Nm.isN (BL p) = true) : 0 < p.size:=(lowN_small h).1
theorem isN_head {p : ByteArray} (h : Nm.isN (BL p) = true) : ∃ b : UInt8,bt p 0 = (b.toNat : Int) ∧ (BL p).headD 0 = b ∧ (Nm.smB b || Nm.lgB b) = true:=by
 have h0:=isN_pos h
 refine ⟨(BL p).headD 0,bt_head p h0,rfl,?_⟩
 unfold Nm.isN at h
 simp only [Bool.and_eq_true] at h
 exact h.1.2
theorem sm_lg (b : UInt8) : (Nm.smB b && Nm.lgB b) = false:=by
 unfold Nm.smB Nm.lgB
 rw [Bool.eq_false_iff];simp;omega
theorem class_val (p : ByteArray) : name_Class.f p = some (Nm.clsN (BL p)):=by
 unfold name_Class.f name_Is.f Nm.clsN
 rw [Option.bind_some]
 cases hi : Nm.isN p.data.toList with
 | false=>rfl
 | true =>
  have h0:=isN_pos hi
  rw [if_pos rfl,if_pos (by omega),bt_head p h0,Bool.true_and]
  rw [show wrap32 (((p.data.toList.headD 0).toNat : Nat) : Int) = ((p.data.toList.headD 0).toNat : Int) by have:=(p.data.toList.headD 0).toNat_lt;unfold wrap32;omega]
  rw [large_at _ (Nm.lgB (p.data.toList.headD 0)) (by unfold Nm.lgB;rw [Bool.eq_iff_iff];simp;omega)]
  rfl
theorem refClass_val (s : ByteArray) (hs : s.size ≤ 140737488351232) : Ev (fun k=>r06_Class.f k s) (Nm.clsN (BL s)):=by
 obtain ⟨K,hI⟩:=ev_out (refIs_val s hs)
 refine ev_mk K (fun k hk=>?_)
 unfold r06_Class.f Nm.clsN
 rw [hI k hk,Option.bind_some]
 cases hi : Nm.isN (BL s) with
 | false=>rfl
 | true =>
  obtain ⟨b,e1,e2,e3⟩:=isN_head hi
  have h0:=isN_pos hi
  rw [if_pos rfl,if_pos (by omega),e1,sm_val,Option.bind_some,Bool.true_and,e2]
  have h4:=sm_lg b
  cases h1 : Nm.smB b <;> cases h2 : Nm.lgB b <;> rw [h1,h2] at e3 h4 <;> first | (revert h4;decide) | (revert e3;decide) | rfl
theorem Idx_l0 (l : List ByteArray) (s : ByteArray) (hl : l.length ≤ 140737488355328) : ∀ (d i : Nat),l.length - i = d → i ≤ l.length → ∃ r : Int,Ev (fun k=>sIs.l0 k l s (l.length : Int) (i : Int)) r ∧ (decide (r ≥ 0) = inB (l.drop i) s)
 | 0,i,hd,hi=>by
  refine ⟨-1,Ev.step (f:=fun _=>some (-1)) (fun k=>?_) (Ev.now _),?_⟩
  ·rw [sIs.l0,if_neg (by omega)]
  ·rw [List.drop_eq_nil_of_le (by omega)];rfl
 | d + 1,i,hd,hi=>by
  have hlt : i < l.length:=by omega
  have hw : wrap64 ((i : Int) + 1) = ((i + 1 : Nat) : Int):=wrap_succ (by omega) (show (i : Int) < (l.length : Int) by omega) (by omega)
  rw [List.drop_eq_getElem_cons hlt]
  by_cases h1 : l[i] = s
  ·refine ⟨(i : Int),Ev.step (f:=fun _=>some (i : Int)) (fun k=>?_) (Ev.now _),?_⟩
   ·rw [sIs.l0,if_pos (by omega),if_pos (by omega),if_pos (by omega),rdOf_get l i hlt,if_pos (by rw [h1])]
   ·unfold inB;rw [List.any_cons,decide_eq_true h1,decide_eq_true (show (i : Int) ≥ 0 by omega)];rfl
  ·obtain ⟨r,hr,he⟩:=Idx_l0 l s hl d (i + 1) (by omega) (by omega)
   refine ⟨r,Ev.step (fun k=>?_) hr,?_⟩
   ·rw [sIs.l0,if_pos (by omega),if_pos (by omega),if_pos (by omega),rdOf_get l i hlt,if_neg (by rw [toList_BL,toList_BL];exact fun h=>h1 (BL_inj h).symm),hw]
   ·rw [he];unfold inB;rw [List.any_cons,decide_eq_false h1,Bool.false_or]
theorem Contains_val (l : List ByteArray) (s : ByteArray) (hl : l.length ≤ 140737488355328) : Ev (fun k=>sCs.f k l s) (inB l s):=by
 obtain ⟨r,hr,he⟩:=Idx_l0 l s hl _ 0 rfl (Nat.zero_le _)
 rw [List.drop_zero] at he
 refine Ev.congr (fun k=>by unfold sCs.f;rfl) (Ev.bind hr ⟨0,fun _ _=>?_⟩)
 rw [he]
def reservedB : List ByteArray:=[⟨#[115,101,108,102]⟩,⟨#[115,117,112,101,114]⟩,⟨#[110,105,108]⟩,⟨#[116,114,117,101]⟩,⟨#[102,97,108,115,101]⟩]
def alwaysB : List ByteArray:=[⟨#[79,98,106,101,99,116]⟩,⟨#[78,105,108]⟩,⟨#[66,111,111,108,101,97,110]⟩,⟨#[73,110,116,101,103,101,114]⟩,⟨#[83,116,114,105,110,103]⟩,⟨#[83,121,109,98,111,108]⟩,⟨#[65,114,114,97,121]⟩,⟨#[66,108,111,99,107]⟩,⟨#[67,108,97,115,115]⟩,⟨#[83,121,115,116,101,109]⟩]
def varB (s : ByteArray) : Bool:=Nm.lowN (BL s) && !(inB reservedB s)
def alwB (s : ByteArray) : Bool:=inB alwaysB s
theorem Var_val (s : ByteArray) : Ev (fun k=>name_Var.f k s) (varB s):=by
 unfold varB
 refine Ev.congr (fun k=>by unfold name_Var.f;rw [lower_val,Option.bind_some]) ?_
 cases h : Nm.lowN (BL s) with
 | false=>exact Ev.now _
 | true =>
  refine Ev.congr (f:=fun k=>(sCs.f k reservedB s).bind fun t=>some (!t)) (fun k=>by rw [if_pos rfl];unfold name_reserved.f;rw [Option.bind_some];rfl) (Ev.bind (Contains_val reservedB s (by decide)) (Ev.now _))
theorem refVar_val (s : ByteArray) (hs : s.size ≤ 140737488351232) : Ev (fun k=>r06_Var.f k s) (varB s):=by
 obtain ⟨K,hI⟩:=ev_out (refIs_val s hs)
 obtain ⟨K2,hC⟩:=ev_out (refIn_val reservedB s (by decide))
 refine ev_mk (max K K2) (fun k hk=>?_)
 unfold r06_Var.f varB Nm.lowN
 rw [hI k (by omega),Option.bind_some]
 cases hi : Nm.isN (BL s) with
 | false=>rfl
 | true =>
  obtain ⟨b,e1,e2,e3⟩:=isN_head hi
  have h0:=isN_pos hi
  rw [if_pos rfl,if_pos (by omega),e1,sm_val,Option.bind_some,Bool.true_and,e2]
  cases h1 : Nm.smB b with
  | false=>rfl
  | true =>
   rw [if_pos rfl,Bool.true_and]
   show ((r06_In.f k reservedB s).bind _) = _
   rw [hC k (by omega),Option.bind_some]
theorem Always_val (s : ByteArray) : Ev (fun k=>name_Always.f k s) (alwB s) :=
 Ev.congr (f:=fun k=>(sCs.f k alwaysB s).bind fun t=>some t) (fun k=>by unfold name_Always.f name_always.f;rw [Option.bind_some];rfl) (Ev.bind (Contains_val alwaysB s (by decide)) (Ev.now _))
theorem refAlways_val (s : ByteArray) : Ev (fun k=>r06_Always.f k s) (alwB s) :=
 Ev.congr (f:=fun k=>(r06_In.f k alwaysB s).bind fun t=>some t) (fun k=>by unfold r06_Always.f;rfl) (Ev.bind (refIn_val alwaysB s (by decide)) (Ev.now _))
abbrev noB : ByteArray:=⟨#[]⟩
theorem toList_nil (s : ByteArray) : (s.toList = ([] : List UInt8)) ↔ s = noB:=by
 rw [toList_BL]
 constructor
 ·intro h;exact BL_inj h
 ·rintro rfl;rfl
theorem toList_eq (s t : ByteArray) : (s.toList = t.toList) ↔ s = t:=by
 rw [toList_BL,toList_BL]
 exact ⟨BL_inj,fun h=>by rw [h]⟩
theorem beq_nil (s : ByteArray) : (s.toList == ([] : List UInt8)) = decide (s = noB):=by
 rw [Bool.eq_iff_iff,beq_iff_eq,decide_eq_true_eq];exact toList_nil s
def varAt (l : List ByteArray) (i : Nat) : Bool:=varB (l.getD i noB) && !(inB (l.take i) (l.getD i noB))
def varsAll (l : List ByteArray) : Bool:=(List.range' 0 l.length).all (varAt l)
theorem rdOf_getD (l : List ByteArray) (i : Nat) : rdOf ByteArray.empty l (i : Int) = l.getD i noB:=rfl
theorem vars_l0 (l : List ByteArray) (hl : l.length ≤ 140737488355328) : ∀ (d i : Nat),l.length - i = d → i ≤ l.length → Ev (fun k=>def_vars.l0 k l l (l.length : Int) (i : Int)) ((List.range' i d).all (varAt l) && decide (l.length ≤ 20))
 | 0,i,hd,hi=>by
  refine Ev.step (f:=fun _=>some (decide ((l.length : Int) ≤ 20))) (fun k=>?_) ?_
  ·rw [def_vars.l0,if_neg (by omega)]
  ·rw [List.range'_zero,List.all_nil,Bool.true_and,show decide (l.length ≤ 20) = decide ((l.length : Int) ≤ 20) from by rw [Bool.eq_iff_iff,decide_eq_true_eq,decide_eq_true_eq];omega]
   exact Ev.now _
 | d + 1,i,hd,hi=>by
  have hw : wrap64 ((i : Int) + 1) = ((i + 1 : Nat) : Int):=wrap_succ (by omega) (show (i : Int) < (l.length : Int) by omega) (by omega)
  obtain ⟨K1,ih⟩:=ev_out (vars_l0 l hl d (i + 1) (by omega) (by omega))
  obtain ⟨K2,hV⟩:=ev_out (Var_val (l.getD i noB))
  obtain ⟨K3,hC⟩:=ev_out (Contains_val (l.take i) (l.getD i noB) (by rw [List.length_take];omega))
  refine ev_mk1 (max K1 (max K2 K3)) (fun m hm=>?_)
  rw [List.range'_succ,List.all_cons,def_vars.l0,if_pos (by omega),if_pos (by omega),if_pos (by omega),rdOf_getD,hV m (by omega),Option.bind_some,Int.toNat_natCast,hC m (by omega),Option.bind_some,hw]
  unfold varAt
  cases h1 : varB (l.getD i noB) with
  | false=>rfl
  | true =>
   rw [if_pos rfl,if_pos (by omega)]
   cases h2 : inB (l.take i) (l.getD i noB) with
   | true=>rfl
   | false=>exact ih m (by omega)
theorem vars_val (l : List ByteArray) (hl : l.length ≤ 140737488355328) : Ev (fun k=>def_vars.f k l) (varsAll l && decide (l.length ≤ 20)):=vars_l0 l hl _ 0 rfl (Nat.zero_le _)
def rightD (kd : Int) (c s : ByteArray) (v : List ByteArray) (l t : ByteArray) : Bool :=
 if kd = 1 then Nm.clsN (BL c) && !(alwB c) && Nm.clsN (BL s) && varsAll v && decide (v.length ≤ 20) && decide (l = noB) && decide (t = noB)
 else if kd = 2 then Nm.clsN (BL c) && decide (Nm.kindN (BL l) ≠ 0) && decide (t.size ≤ 4000) && decide (s = noB) && decide (v.length = 0)
 else false
theorem Right_val (kd : Int) (c s : ByteArray) (v : List ByteArray) (l t : ByteArray) (hv : v.length ≤ 140737488355328) (hl : l.size < 4294967281) : Ev (fun k=>def_Right.f k kd c s v l t) (rightD kd c s v l t):=by
 obtain ⟨K1,hA⟩:=ev_out (Always_val c)
 obtain ⟨K2,hV⟩:=ev_out (vars_val v hv)
 refine ev_mk (max K1 K2) (fun k hk=>?_)
 unfold def_Right.f rightD
 rw [class_val,Option.bind_some,hA k (by omega),Option.bind_some,class_val,Option.bind_some,hV k (by omega),Option.bind_some,Kind_val l hl,Option.bind_some,Option.bind_some]
 by_cases h1 : kd = 1
 ·rw [if_pos h1,if_pos h1]
  cases Nm.clsN (BL c) <;> cases alwB c <;> cases Nm.clsN (BL s) <;> cases varsAll v <;> cases decide (v.length ≤ 20) <;> try rfl
  rw [beq_nil]
  by_cases e : l = noB
  ·rw [if_pos ((toList_nil l).2 e),decide_eq_true e];rfl
  ·rw [if_neg (fun h=>e ((toList_nil l).1 h)),decide_eq_false e];rfl
 ·rw [if_neg h1,if_neg h1]
  by_cases h2 : kd = 2
  ·rw [if_pos h2,if_pos h2]
   cases Nm.clsN (BL c) <;> try rfl
   by_cases h3 : Nm.kindN (BL l) = 0
   ·rw [if_pos rfl,if_pos h3,decide_eq_false (fun h=>h h3)];rfl
   ·rw [if_pos rfl,if_neg h3,decide_eq_true h3]
    by_cases h4 : t.size ≤ 4000
    ·rw [if_pos (by omega),decide_eq_true h4]
     by_cases h5 : s = noB
     ·rw [if_pos ((toList_nil s).2 h5),decide_eq_true h5,show ((v.length : Int) == 0) = decide (v.length = 0) from by rw [Bool.eq_iff_iff,beq_iff_eq,decide_eq_true_eq];omega];rfl
     ·rw [if_neg (fun h=>h5 ((toList_nil s).1 h)),decide_eq_false h5];rfl
    ·rw [if_neg (by omega),decide_eq_false h4];rfl
  ·rw [if_neg h2,if_neg h2]
theorem refRight_l0 (kd : Int) (c s : ByteArray) (v : List ByteArray) (l t : ByteArray) (hv : v.length ≤ 140737488355328) (hz : ∀ x ∈ v,x.size ≤ 140737488351232) (hs : s.size ≤ 140737488351232) : ∀ (d i : Nat),v.length - i = d → i ≤ v.length →
  Ev (fun k=>r07_Right.l0 k (i : Int) kd c s v l t) ((List.range' i d).all (varAt v) && (!(alwB c) && Nm.clsN (BL s) && decide (v.length ≤ 20) && decide (l = noB) && decide (t = noB)))
 | 0,i,hd,hi=>by
  obtain ⟨K1,hA⟩:=ev_out (refAlways_val c)
  obtain ⟨K2,hC⟩:=ev_out (refClass_val s hs)
  refine ev_mk1 (max K1 K2) (fun m hm=>?_)
  rw [List.range'_zero,List.all_nil,Bool.true_and,r07_Right.l0,if_neg (by omega),hA m (by omega),Option.bind_some,hC m (by omega),Option.bind_some]
  cases alwB c <;> cases Nm.clsN (BL s) <;> try rfl
  by_cases h3 : v.length ≤ 20
  ·rw [if_neg (by decide),if_pos rfl,if_pos (by omega),decide_eq_true h3,beq_nil]
   by_cases e : l = noB
   ·rw [if_pos ((toList_nil l).2 e),decide_eq_true e];rfl
   ·rw [if_neg (fun h=>e ((toList_nil l).1 h)),decide_eq_false e];rfl
  ·rw [if_neg (by decide),if_pos rfl,if_neg (by omega),decide_eq_false h3];rfl
 | d + 1,i,hd,hi=>by
  have hw : wrap64 ((i : Int) + 1) = ((i + 1 : Nat) : Int):=wrap_succ (by omega) (show (i : Int) < (v.length : Int) by omega) (by omega)
  have hg : (v.getD i noB).size ≤ 140737488351232:=by
   rw [List.getD_eq_getElem?_getD,List.getElem?_eq_getElem (by omega)]
   exact hz _ (List.getElem_mem _)
  obtain ⟨K1,ih⟩:=ev_out (refRight_l0 kd c s v l t hv hz hs d (i + 1) (by omega) (by omega))
  obtain ⟨K2,hV⟩:=ev_out (refVar_val (v.getD i noB) hg)
  obtain ⟨K3,hC⟩:=ev_out (refIn_val (v.take i) (v.getD i noB) (by rw [List.length_take];omega))
  refine ev_mk1 (max K1 (max K2 K3)) (fun m hm=>?_)
  rw [List.range'_succ,List.all_cons,r07_Right.l0,if_pos (by omega),if_pos (by omega),rdOf_getD,hV m (by omega),Option.bind_some,Int.toNat_natCast,hC m (by omega),Option.bind_some,hw]
  unfold varAt
  cases h1 : varB (v.getD i noB) with
  | false=>rfl
  | true =>
   rw [if_pos rfl,if_pos (by omega)]
   cases h2 : inB (v.take i) (v.getD i noB) with
   | true=>rfl
   | false=>exact ih m (by omega)
theorem refRight_val (kd : Int) (c s : ByteArray) (v : List ByteArray) (l t : ByteArray) (hv : v.length ≤ 140737488355328) (hz : ∀ x ∈ v,x.size ≤ 140737488351232) (hc : c.size ≤ 140737488351232) (hs : s.size ≤ 140737488351232) (hl : l.size ≤ 4294967280) : Ev (fun k=>r07_Right.f k kd c s v l t) (rightD kd c s v l t):=by
 obtain ⟨K1,hC⟩:=ev_out (refClass_val c hc)
 obtain ⟨K2,hL⟩:=ev_out (refRight_l0 kd c s v l t hv hz hs _ 0 rfl (Nat.zero_le _))
 obtain ⟨K3,hK⟩:=ev_out (refKind_val l hl)
 refine ev_mk (max K1 (max K2 K3)) (fun k hk=>?_)
 have hL2 : r07_Right.l0 k 0 kd c s v l t = _:=hL k (by omega)
 unfold r07_Right.f rightD
 rw [hC k (by omega),Option.bind_some,hL2,hK k (by omega),Option.bind_some]
 by_cases h1 : kd = 1
 ·rw [if_pos h1,if_pos h1]
  show _ = some (Nm.clsN (BL c) && !(alwB c) && Nm.clsN (BL s) && (List.range' 0 v.length).all (varAt v) && decide (v.length ≤ 20) && decide (l = noB) && decide (t = noB))
  rw [Nat.sub_zero]
  cases Nm.clsN (BL c) <;> cases (List.range' 0 v.length).all (varAt v) <;> cases alwB c <;> cases Nm.clsN (BL s) <;> rfl
 ·rw [if_neg h1,if_neg h1]
  by_cases h2 : kd = 2
  ·rw [if_pos h2,if_pos h2]
   cases Nm.clsN (BL c) <;> try rfl
   have hk0:=kind_cases (BL l)
   by_cases h3 : Nm.kindN (BL l) = 0
   ·rw [if_pos rfl,if_neg (by omega),decide_eq_false (fun h=>h h3)];rfl
   ·rw [if_pos rfl,if_pos (by omega),decide_eq_true h3]
    by_cases h4 : t.size ≤ 4000
    ·rw [if_pos (by omega),decide_eq_true h4]
     by_cases h5 : s = noB
     ·rw [if_pos ((toList_nil s).2 h5),decide_eq_true h5,show ((v.length : Int) == 0) = decide (v.length = 0) from by rw [Bool.eq_iff_iff,beq_iff_eq,decide_eq_true_eq];omega];rfl
     ·rw [if_neg (fun h=>h5 ((toList_nil s).1 h)),decide_eq_false h5];rfl
    ·rw [if_neg (by omega),decide_eq_false h4];rfl
  ·rw [if_neg h2,if_neg h2]
   cases Nm.clsN (BL c) <;> rfl
abbrev arrowB : ByteArray:=⟨#[62,62]⟩
def keyD (kd : Int) (c s : ByteArray) (v : List ByteArray) (l t : ByteArray) : ByteArray:=if rightD kd c s v l t = true then (if kd = 1 then c else c ++ arrowB ++ l) else noB
theorem size_app (a b : ByteArray) : (a ++ b).size = a.size + b.size:=ByteArray.size_append
theorem Key_val (kd : Int) (c s : ByteArray) (v : List ByteArray) (l t : ByteArray) (hv : v.length ≤ 140737488355328) (hc : c.size ≤ 140737488351232) (hl : l.size < 4294967281) : Ev (fun k=>def_Key.f k kd c s v l t) (keyD kd c s v l t):=by
 obtain ⟨K,h⟩:=ev_out (Right_val kd c s v l t hv hl)
 refine ev_mk K (fun k hk=>?_)
 unfold def_Key.f keyD
 rw [h k hk,Option.bind_some]
 cases rightD kd c s v l t with
 | false=>rfl
 | true =>
  rw [if_pos rfl,if_pos rfl]
  by_cases h1 : kd = 1
  ·rw [if_pos h1,if_pos h1]
  ·rw [if_neg h1,if_neg h1,if_pos (by omega),if_pos (by rw [size_app];show c.size + 2 + l.size ≤ _;omega)]
theorem refKey_val (kd : Int) (c s : ByteArray) (v : List ByteArray) (l t : ByteArray) (hv : v.length ≤ 140737488355328) (hz : ∀ x ∈ v,x.size ≤ 140737488351232) (hc : c.size ≤ 140737488351232) (hs : s.size ≤ 140737488351232) (hl : l.size ≤ 4294967280) : Ev (fun k=>r07_Key.f k kd c s v l t) (keyD kd c s v l t):=by
 obtain ⟨K,h⟩:=ev_out (refRight_val kd c s v l t hv hz hc hs hl)
 refine ev_mk K (fun k hk=>?_)
 unfold r07_Key.f keyD
 rw [h k hk,Option.bind_some]
 cases rightD kd c s v l t with
 | false=>rfl
 | true =>
  rw [if_pos rfl,if_pos rfl]
  by_cases h1 : kd = 1
  ·rw [if_pos h1,if_pos h1]
  ·rw [if_neg h1,if_neg h1,if_pos (by omega),if_pos (by rw [size_app];show c.size + 2 + l.size ≤ _;omega)]
def sameD (kd : Int) (c s : ByteArray) (v : List ByteArray) (l t : ByteArray) (kd' : Int) (c' s' : ByteArray) (v' : List ByteArray) (l' t' : ByteArray) : Bool :=
 decide (kd = kd') && decide (c = c') && decide (s = s') && decide (v = v') && decide (l = l') && decide (t = t')
theorem refDSame_val (kd : Int) (c s : ByteArray) (v : List ByteArray) (l t : ByteArray) (kd' : Int) (c' s' : ByteArray) (v' : List ByteArray) (l' t' : ByteArray) (hv : v.length ≤ 140737488355328) :
  Ev (fun k=>r07_Same.f k kd c s v l t kd' c' s' v' l' t') (sameD kd c s v l t kd' c' s' v' l' t'):=by
 obtain ⟨K,h⟩:=ev_out (Same_val v v' hv)
 refine ev_mk K (fun k hk=>?_)
 unfold r07_Same.f sameD
 rw [h k hk,Option.bind_some]
 by_cases h1 : kd = kd'
 ·rw [if_pos h1,decide_eq_true h1]
  by_cases h2 : c = c'
  ·rw [if_pos ((toList_eq _ _).2 h2),decide_eq_true h2]
   by_cases h3 : s = s'
   ·rw [if_pos ((toList_eq _ _).2 h3),decide_eq_true h3]
    by_cases h5 : l = l'
    ·rw [if_pos ((toList_eq _ _).2 h5),decide_eq_true h5]
     by_cases h6 : t = t'
     ·rw [if_pos ((toList_eq _ _).2 h6),decide_eq_true h6]
      simp
     ·rw [if_neg (fun e=>h6 ((toList_eq _ _).1 e)),decide_eq_false h6,Bool.and_false]
    ·rw [if_neg (fun e=>h5 ((toList_eq _ _).1 e)),decide_eq_false h5,Bool.and_false,Bool.false_and]
   ·rw [if_neg (fun e=>h3 ((toList_eq _ _).1 e)),decide_eq_false h3];rfl
  ·rw [if_neg (fun e=>h2 ((toList_eq _ _).1 e)),decide_eq_false h2];rfl
 ·rw [if_neg h1,decide_eq_false h1];rfl
theorem cls_pos {l : List UInt8} (h : Nm.clsN l = true) : 0 < l.length:=by
 unfold Nm.clsN Nm.isN at h
 simp only [Bool.and_eq_true,decide_eq_true_eq] at h
 omega
theorem right_cases {kd : Int} {c s : ByteArray} {v : List ByteArray} {l t : ByteArray} (h : rightD kd c s v l t = true) :
  Nm.clsN (BL c) = true ∧ ((kd = 1 ∧ alwB c = false ∧ l = noB ∧ keyD kd c s v l t = c) ∨ (kd = 2 ∧ Nm.kindN (BL l) ≠ 0 ∧ keyD kd c s v l t = c ++ arrowB ++ l)):=by
 have hk : keyD kd c s v l t = if kd = 1 then c else c ++ arrowB ++ l:=by unfold keyD;rw [if_pos h]
 unfold rightD at h
 by_cases h1 : kd = 1
 ·rw [if_pos h1] at h hk
  simp only [Bool.and_eq_true,decide_eq_true_eq,Bool.not_eq_true'] at h
  exact ⟨h.1.1.1.1.1.1,.inl ⟨h1,h.1.1.1.1.1.2,h.1.2,hk⟩⟩
 ·rw [if_neg h1] at h hk
  by_cases h2 : kd = 2
  ·rw [if_pos h2] at h
   simp only [Bool.and_eq_true,decide_eq_true_eq] at h
   exact ⟨h.1.1.1.1,.inr ⟨h2,h.1.1.1.2,hk⟩⟩
  ·rw [if_neg h2] at h;cases h
theorem key_empty {kd : Int} {c s : ByteArray} {v : List ByteArray} {l t : ByteArray} : (keyD kd c s v l t = noB) ↔ rightD kd c s v l t = false:=by
 constructor
 ·intro h
  cases hr : rightD kd c s v l t with
  | false=>rfl
  | true =>
   exfalso
   obtain ⟨hc,hh⟩:=right_cases hr
   have h0:=cls_pos hc
   rw [BL_len] at h0
   rcases hh with ⟨_,_,_,e⟩ | ⟨_,_,e⟩
   ·rw [h] at e
    rw [← e] at h0
    exact absurd h0 (by decide)
   ·rw [h] at e
    have h1:=congrArg ByteArray.size e
    rw [size_app,size_app] at h1
    have : noB.size = 0:=rfl
    omega
 ·intro h;unfold keyD;rw [h];rfl
end Go.Proofs.YtmlebgikdegjjaaGreatDoor.PAll
