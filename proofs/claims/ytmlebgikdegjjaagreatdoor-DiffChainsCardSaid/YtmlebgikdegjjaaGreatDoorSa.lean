/- Maps of definitions by their keys: what a map's block holds, and the operations on it. -/
import Derived.Test.YtmlebgikdegjjaaGreatDoorWWords
import Derived.Test.YtmlebgikdegjjaaGreatDoorPAllx0
import Derived.Maps.OwnSet
import Derived.Maps.OwnOps
import Derived.Maps.RangeWalk
import Derived.Maps.Ext
import Derived.Lib.SlMapEqual
import Derived.Laws.IdiomRangeMap
import Derived.StringKeys
namespace Go.Proofs.YtmlebgikdegjjaaGreatDoor.Hd
open Go.Maps Go.RowKit Go.Proofs.YtmlebgikdegjjaaGreatDoorW.PrintWords Go.Proofs.YtmlebgikdegjjaaGreatDoorW.PrintLast Go.Proofs.YtmlebgikdegjjaaGreatDoorW.PrintMore Go.Proofs.YtmlebgikdegjjaaGreatDoor.PAll
attribute [local go_sem] max2_int min2_int max_two min_two max_three min_three max_four min_four
set_option linter.unusedVariables false
set_option linter.unusedSimpArgs false
def CellsKept (w w' : World) : Prop:=∀ a u,w.cell? a = some u → w'.cell? a = some u
theorem CellsKept.refl (w : World) : CellsKept w w:=fun _ _ h=>h
theorem CellsKept.trans {a b c : World} (h : CellsKept a b) (k : CellsKept b c) : CellsKept a c:=fun x u hx=>k x u (h x u hx)
theorem CellsKept.below {w w' : World} (h : Below w.heap.size w w') : CellsKept w w':=fun _ _ hc=>pC h hc
theorem CellsKept.grown {w w' : World} {b : Nat} {es : Array MapEntry} {c : Nat} (h : w.grownBy w' (some b)) (hb : w.heap[b]? = some (.map es c)) : CellsKept w w':=fun a u hc=>by
 refine h.cell hc (fun e=>?_)
 have e:=Option.some.inj e
 unfold World.cell? at hc
 rw [e,hb] at hc
 cases hc
theorem C_cells {w w' : World} {A : Option Addr} {n : Nat} {l : List ByteArray} (h : Kd.string.C w A n l) (hk : CellsKept w w') : Kd.string.C w' A n l :=
 ⟨h.1,h.2.1,fun hn=>by
  obtain ⟨ad,e,hc⟩:=h.2.2 hn
  refine ⟨ad,e,fun j p hj=>?_⟩
  obtain ⟨c,hs,hr,hcell⟩:=hc j p hj
  exact ⟨c,hs,hr,fun i u hu=>hk _ _ (hcell i u hu)⟩⟩
def Dv (w : World) (d : S34) (v : Value) : Prop:=∃ A c,v = .agg #[.int .i64 d.f0,.string d.f1,.string d.f2,.slice A d.f3.length c,.string d.f4,.string d.f5] ∧ d.f3.length ≤ c ∧ Kd.string.C w A d.f3.length d.f3
theorem Dv.cells {w w' : World} {d : S34} {v : Value} (h : Dv w d v) (hk : CellsKept w w') : Dv w' d v:=by
 obtain ⟨A,c,e,hl,hc⟩:=h
 exact ⟨A,c,e,hl,C_cells hc hk⟩
def Rel2 {α β : Type} (R : α → β → Prop) : List α → List β → Prop
 | [],[]=>True
 | a :: l,b :: m=>R a b ∧ Rel2 R l m
 | _,_=>False
theorem Rel2.imp {α β : Type} {R R' : α → β → Prop} (h : ∀ a b,R a b → R' a b) : ∀ {l : List α} {m : List β},Rel2 R l m → Rel2 R' l m
 | [],[],_=>trivial
 | a :: l,b :: m,hr=>⟨h a b hr.1,Rel2.imp h hr.2⟩
 | [],_ :: _,hr=>hr.elim
 | _ :: _,[],hr=>hr.elim
theorem Rel2.len {α β : Type} {R : α → β → Prop} : ∀ {l : List α} {m : List β},Rel2 R l m → l.length = m.length
 | [],[],_=>rfl
 | a :: l,b :: m,hr=>by rw [List.length_cons,List.length_cons,Rel2.len hr.2]
 | [],_ :: _,hr=>hr.elim
 | _ :: _,[],hr=>hr.elim
def RelE (w : World) (e : Lit × DataW Value) (m : Lit × DataW S34) : Prop:=e.1 = m.1 ∧ ∃ v d,e.2 = .held v ∧ m.2 = .held d ∧ Dv w d v
def RelD (w : World) (D : DataW Value) (M : DataW S34) : Prop:=∃ es ms,D = .map es ∧ M = .map ms ∧ Rel2 (RelE w) es ms
theorem RelE.cells {w w' : World} (hk : CellsKept w w') (e : Lit × DataW Value) (m : Lit × DataW S34) (h : RelE w e m) : RelE w' e m:=by
 obtain ⟨h1,v,d,h2,h3,h4⟩:=h
 exact ⟨h1,v,d,h2,h3,h4.cells hk⟩
theorem RelD.cells {w w' : World} {D : DataW Value} {M : DataW S34} (h : RelD w D M) (hk : CellsKept w w') : RelD w' D M:=by
 obtain ⟨es,ms,h1,h2,h3⟩:=h
 exact ⟨es,ms,h1,h2,h3.imp (RelE.cells hk)⟩
theorem RelD.size {w : World} {D : DataW Value} {M : DataW S34} (h : RelD w D M) : Maps.size D = Maps.size M:=by
 obtain ⟨es,ms,rfl,rfl,h3⟩:=h
 exact h3.len
theorem rel_filter {w : World} (kl : Lit) : ∀ {es : List (Lit × DataW Value)} {ms : List (Lit × DataW S34)},Rel2 (RelE w) es ms → Rel2 (RelE w) (es.filter fun p=>!p.1.sameKey kl) (ms.filter fun p=>!p.1.sameKey kl)
 | [],[],_=>trivial
 | a :: l,b :: m,hr=>by
  have ih:=rel_filter kl hr.2
  cases h : b.1.sameKey kl with
  | true =>
   rw [List.filter_cons_of_neg (by rw [hr.1.1,h];decide),List.filter_cons_of_neg (by rw [h];decide)]
   exact ih
  | false =>
   rw [List.filter_cons_of_pos (by rw [hr.1.1,h];rfl),List.filter_cons_of_pos (by rw [h];rfl)]
   exact ⟨hr.1,ih⟩
 | [],_ :: _,hr=>hr.elim
 | _ :: _,[],hr=>hr.elim
theorem rel_insert {w : World} {x : Lit × DataW Value} {y : Lit × DataW S34} (hx : RelE w x y) : ∀ {es : List (Lit × DataW Value)} {ms : List (Lit × DataW S34)},Rel2 (RelE w) es ms → Rel2 (RelE w) (DataW.insert x es) (DataW.insert y ms)
 | [],[],_=>⟨hx,trivial⟩
 | a :: l,b :: m,hr=>by
  unfold DataW.insert
  rw [hx.1,hr.1.1]
  by_cases h : y.1.before b.1 = true
  ·rw [if_pos h,if_pos h]
   exact ⟨hx,hr⟩
  ·rw [if_neg h,if_neg h]
   exact ⟨hr.1,rel_insert hx hr.2⟩
 | [],_ :: _,hr=>hr.elim
 | _ :: _,[],hr=>hr.elim
theorem RelD.put {w : World} {D : DataW Value} {M : DataW S34} (h : RelD w D M) (kl : Lit) {v : Value} {d : S34} (hv : Dv w d v) : RelD w (D.put kl (.held v)) (M.put kl (.held d)):=by
 obtain ⟨es,ms,rfl,rfl,h3⟩:=h
 exact ⟨_,_,rfl,rfl,rel_insert ⟨rfl,v,d,rfl,rfl,hv⟩ (rel_filter kl h3)⟩
theorem RelD.del {w : World} {D : DataW Value} {M : DataW S34} (h : RelD w D M) (kl : Lit) : RelD w (D.del kl) (M.del kl):=by
 obtain ⟨es,ms,rfl,rfl,h3⟩:=h
 exact ⟨_,_,rfl,rfl,rel_filter kl h3⟩
theorem atKey_find {H : Type} (es : List (Lit × DataW H)) (kl : Lit) (z : DataW H) : (DataW.map es).atKey kl z = ((es.find? fun p=>p.1.sameKey kl).map (·.2)).getD z:=by
 unfold DataW.atKey
 cases h : es.find? (fun p=>p.1.sameKey kl) <;> simp [h]
theorem rel_keys {w : World} : ∀ {es : List (Lit × DataW Value)} {ms : List (Lit × DataW S34)},Rel2 (RelE w) es ms → es.map (·.1) = ms.map (·.1)
 | [],[],_=>rfl
 | a :: l,b :: m,hr=>by rw [List.map_cons,List.map_cons,hr.1.1,rel_keys hr.2]
 | [],_ :: _,hr=>hr.elim
 | _ :: _,[],hr=>hr.elim
theorem rel_look {w : World} (kl : Lit) : ∀ {es : List (Lit × DataW Value)} {ms : List (Lit × DataW S34)},Rel2 (RelE w) es ms →
  (Maps.has (.map es) kl = false ∧ Maps.has (.map ms) kl = false) ∨ (Maps.has (.map es) kl = true ∧ Maps.has (.map ms) kl = true ∧ ∃ v d,(∀ z,(DataW.map es).atKey kl z = .held v) ∧ (∀ z,(DataW.map ms).atKey kl z = .held d) ∧ Dv w d v)
 | [],[],_=>Or.inl ⟨rfl,rfl⟩
 | a :: l,b :: m,hr=>by
  have e1:=hr.1.1
  cases h : b.1.sameKey kl with
  | true =>
   obtain ⟨v,d,h1,h2,h3⟩:=hr.1.2
   refine Or.inr ⟨?_,?_,v,d,fun z=>?_,fun z=>?_,h3⟩
   ·rw [Maps.has_eq,List.any_cons,e1,h];rfl
   ·rw [Maps.has_eq,List.any_cons,h];rfl
   ·rw [atKey_find,List.find?_cons_of_pos (by rw [e1];exact h)]
    exact h1
   ·rw [atKey_find,List.find?_cons_of_pos (p:=fun p : Lit × DataW S34=>p.1.sameKey kl) h]
    exact h2
  | false =>
   have f1 : Maps.has (.map (a :: l)) kl = Maps.has (.map l) kl:=by rw [Maps.has_eq,Maps.has_eq,List.any_cons,e1,h,Bool.false_or]
   have f2 : Maps.has (.map (b :: m)) kl = Maps.has (.map m) kl:=by rw [Maps.has_eq,Maps.has_eq,List.any_cons,h,Bool.false_or]
   have g1 : ∀ z,(DataW.map (a :: l)).atKey kl z = (DataW.map l).atKey kl z:=fun z=>by
    rw [atKey_find,atKey_find,List.find?_cons_of_neg (by rw [e1,h];decide)]
   have g2 : ∀ z,(DataW.map (b :: m)).atKey kl z = (DataW.map m).atKey kl z:=fun z=>by
    rw [atKey_find,atKey_find,List.find?_cons_of_neg (by rw [h];decide)]
   rw [f1,f2]
   rcases rel_look kl hr.2 with hh | ⟨h1,h2,v,d,h3,h4,h5⟩
   ·exact Or.inl hh
   ·exact Or.inr ⟨h1,h2,v,d,fun z=>(g1 z).trans (h3 z),fun z=>(g2 z).trans (h4 z),h5⟩
 | [],_ :: _,hr=>hr.elim
 | _ :: _,[],hr=>hr.elim
theorem RelD.look {w : World} {D : DataW Value} {M : DataW S34} (h : RelD w D M) (kl : Lit) :
  (Maps.has D kl = false ∧ Maps.has M kl = false) ∨ (Maps.has D kl = true ∧ Maps.has M kl = true ∧ ∃ v d,(∀ z,D.atKey kl z = .held v) ∧ (∀ z,M.atKey kl z = .held d) ∧ Dv w d v):=by
 obtain ⟨es,ms,rfl,rfl,h3⟩:=h
 exact rel_look kl h3
abbrev RV : Value → Option (DataW Value × List MemPlace):=fun v=>some (.held v,[])
theorem keyed_ : Keyed Tryz.prog 9:=string_keyed Tryz.underlying9
abbrev KL (s : ByteArray) : Lit:=.string s.data.toList
theorem keyOf_ {s : ByteArray} (hs : s.size ≤ maxLen) : keyOf Tryz.prog 9 (.string s) = some (KL s):=WideMaps.keyOf_string_mk Tryz.underlying9 hs
def MapD (w : World) (b : Nat) (M : DataW S34) : Prop:=∃ D,w.ownsMap Tryz.prog 9 RV b (Maps.size M) D ∧ RelD w D M
theorem owns_tight {w : World} {b n : Nat} {D : DataW Value} (h : w.ownsMap Tryz.prog 9 RV b n D) : w.ownsMap Tryz.prog 9 RV b (Maps.size D) D:=by
 obtain ⟨es,clock,hb,F,hs,rfl⟩:=h
 exact ⟨es,clock,hb,F,by simp [Maps.size,length_sorted],rfl⟩
theorem MapD.of {w : World} {b n : Nat} {D : DataW Value} {M : DataW S34} (h : w.ownsMap Tryz.prog 9 RV b n D) (hr : RelD w D M) : MapD w b M:=⟨D,by rw [← hr.size];exact owns_tight h,hr⟩
theorem MapD.made (w : World) : MapD (w.alloc (.map #[] 0)) w.heap.size (.map []):=⟨.map [],World.ownsMap_made _ _ _ _,[],[],rfl,rfl,trivial⟩
theorem MapD.lt {w : World} {b : Nat} {M : DataW S34} (h : MapD w b M) : b < w.heap.size:=by
 obtain ⟨D,h,_⟩:=h
 exact h.lt
theorem MapD.kept {w w' : World} {b : Nat} {M : DataW S34} (h : MapD w b M) {row : Option Nat} (hg : w.grownBy w' row) (hne : some b ≠ row) (hk : CellsKept w w') : MapD w' b M:=by
 obtain ⟨D,h,hr⟩:=h
 exact ⟨D,h.kept hg hne,hr.cells hk⟩
theorem MapD.below {w w' : World} {b : Nat} {M : DataW S34} (h : MapD w b M) (hb : Below w.heap.size w w') : MapD w' b M:=h.kept (grown_of_below hb none) (by simp) (.below hb)
theorem MapD.canon {w : World} {b : Nat} {M : DataW S34} (h : MapD w b M) : Maps.Canon M:=by
 obtain ⟨D,h,es,ms,rfl,rfl,hr⟩:=h
 obtain ⟨es',he,hp,hk⟩:=h.canon keyed_
 cases he
 have hm:=rel_keys hr
 refine ⟨ms,rfl,?_,fun p hp=>?_⟩
 ·have h2 : (es.map (·.1)).Pairwise (fun p q=>p.before q = true):=List.pairwise_map.2 hp
  rw [hm] at h2
  exact List.pairwise_map.1 h2
 ·have h2 : p.1 ∈ ms.map (·.1):=List.mem_map.2 ⟨p,hp,rfl⟩
  rw [← hm] at h2
  obtain ⟨q,hq,e⟩:=List.mem_map.1 h2
  rw [← e]
  exact hk q hq
section
variable {ops : Array Oper} {rest : List Oper} {o : Oper} {a : Act} {Q : Exit → Act → World → Prop}
theorem made_event {W : World} (hgd : o.guard = none) (ho : o.op = .makeMap 86 none)
  (h : ∀ b w1,b = W.heap.size → MapD w1 b (.map []) → Below W.heap.size W w1 → w1.heap.size = W.heap.size + 1 → wpList Tryz.prog ops Q rest (a.put o.dst (.map (some b))) w1) : wpList Tryz.prog ops Q (o :: rest) a W:=by
 refine Kd.event_run hgd (w1:=W.alloc (.map #[] 0)) (v:=.map (some W.heap.size)) ?_ (h _ _ rfl (MapD.made W) (bA (Below.refl _ _) _) (by show (W.heap.push _).size = _;simp))
 unfold execOp
 simp only [ho,Option.map_none,run_makeMap,Sem.run_bind,Sem.run_pure,Result.andThen_ok]
abbrev zDv : Value:=.agg #[.int .i64 0,.string ⟨#[]⟩,.string ⟨#[]⟩,.slice none 0 0,.string ⟨#[]⟩,.string ⟨#[]⟩]
theorem zero_def (w : World) : (zeroValue 34).run Tryz.prog w = .ok zDv w:=by
 kernel_rfl
theorem look_event {W : World} (hg : o.guard = none) (m x : Operand) (hop : o.op = Op.lookup 86 m x true) (b : Nat) (M : DataW S34) (s : ByteArray) (hm : a.eval m = .map (some b)) (hx : a.eval x = .string s) (hs : s.size ≤ maxLen) (h : MapD W b M)
  (hK1 : Maps.has M (KL s) = false → wpList Tryz.prog ops Q rest (a.put o.dst (.tuple #[zDv,.bool false])) W)
  (hK2 : ∀ v d,Maps.has M (KL s) = true → (∀ z,M.atKey (KL s) z = .held d) → Dv W d v → wpList Tryz.prog ops Q rest (a.put o.dst (.tuple #[v,.bool true])) W) : wpList Tryz.prog ops Q (o :: rest) a W:=by
 obtain ⟨D,h,hr⟩:=h
 refine wpList_lookup_own_ok W hg m x 86 hop 9 34 keyed_ Tryz.underlying86 RV (zero_def W) (.held zDv) [] rfl b _ D hm h (.string s) (KL s) hx (keyOf_ hs) (fun v ps hv=>?_)
 have hv:=congrArg Prod.fst (Option.some.inj hv)
 rcases hr.look (KL s) with ⟨h1,h2⟩ | ⟨h1,h2,v',d,h3,h4,h5⟩
 ·have : D.atKey (KL s) (.held zDv) = .held zDv:=by
   obtain ⟨es,ms,rfl,rfl,_⟩:=hr
   rw [atKey_find,List.find?_eq_none.2 (fun p hp he=>by
    have : Maps.has (.map es) (KL s) = true:=List.any_eq_true.2 ⟨p,hp,he⟩
    rw [this] at h1
    cases h1)]
   rfl
  have hv : DataW.held v = D.atKey (KL s) (.held zDv):=hv
  rw [this] at hv
  injection hv with hv
  subst hv
  rw [h1]
  exact hK1 h2
 ·have hv : DataW.held v = D.atKey (KL s) (.held zDv):=hv
  rw [h3] at hv
  injection hv with hv
  subst hv
  rw [h1]
  exact hK2 v d h2 h4 h5
theorem look_nil_event {W : World} (hg : o.guard = none) (m x : Operand) (hop : o.op = Op.lookup 86 m x true) (s : ByteArray) (hm : a.eval m = .map none) (hx : a.eval x = .string s) (hs : s.size ≤ maxLen)
  (hK1 : wpList Tryz.prog ops Q rest (a.put o.dst (.tuple #[zDv,.bool false])) W) : wpList Tryz.prog ops Q (o :: rest) a W:=by
 refine Kd.event_run hg (w1:=W) (v:=.tuple #[zDv,.bool false]) ?_ hK1
 unfold execOp
 simp only [hop,hm,hx,Maps.look_nil true keyed_ Tryz.underlying86 (zero_def W) (keyOf_ hs),Sem.run_bind,Sem.run_pure,Result.andThen_ok,if_true]
theorem look_no {W : World} (hg : o.guard = none) (m x : Operand) (hop : o.op = Op.lookup 86 m x true) (b : Nat) (M : DataW S34) (s : ByteArray) (hm : a.eval m = .map (some b)) (hx : a.eval x = .string s) (hs : s.size ≤ maxLen) (h : MapD W b M) (hh : Maps.has M (KL s) = false)
  (hK1 : wpList Tryz.prog ops Q rest (a.put o.dst (.tuple #[zDv,.bool false])) W) : wpList Tryz.prog ops Q (o :: rest) a W :=
 look_event hg m x hop b M s hm hx hs h (fun _=>hK1) (fun v d h1=>by rw [hh] at h1;cases h1)
theorem look_yes {W : World} (hg : o.guard = none) (m x : Operand) (hop : o.op = Op.lookup 86 m x true) (b : Nat) (M : DataW S34) (s : ByteArray) (hm : a.eval m = .map (some b)) (hx : a.eval x = .string s) (hs : s.size ≤ maxLen) (h : MapD W b M) (hh : Maps.has M (KL s) = true)
  (hK2 : ∀ d A c,(∀ z,M.atKey (KL s) z = .held d) → d.f3.length ≤ c → Kd.string.C W A d.f3.length d.f3 → wpList Tryz.prog ops Q rest (a.put o.dst (.tuple #[.agg #[.int .i64 d.f0,.string d.f1,.string d.f2,.slice A d.f3.length c,.string d.f4,.string d.f5],.bool true])) W) : wpList Tryz.prog ops Q (o :: rest) a W :=
 look_event hg m x hop b M s hm hx hs h (fun h1=>by rw [hh] at h1;cases h1) (fun v d _ h2 h3=>by
  obtain ⟨A,c,rfl,h4,h5⟩:=h3
  exact hK2 d A c h2 h4 h5)
theorem put_step {W : World} {Kc : Act → World → Prop} (hw : Region.wanted o (yielded ops a.tmps) = true) (m x v : Operand) (hop : o.op = Op.mapUpdate 86 m x v) (b : Nat) (M : DataW S34) (s : ByteArray) (d : S34) (val : Value) (hm : a.eval m = .map (some b)) (hx : a.eval x = .string s) (hv : a.eval v = val) (hs : s.size ≤ maxLen) (h : MapD W b M) (hn : Maps.size M < maxLen) (hd : Dv W d val)
  (hK : ∀ w',MapD w' b (M.put (KL s) (.held d)) → W.grownBy w' (some b) → CellsKept W w' → Kc (a.put o.dst undef) w') : if Region.wanted o (yielded ops a.tmps) = true then Oper.wp Tryz.prog o a W Kc Q else Kc (a.put o.dst undef) W:=by
 rw [if_pos hw]
 obtain ⟨D,h,hr⟩:=h
 obtain ⟨w',hrun,h',hg'⟩:=h.update keyed_ Tryz.underlying86 hn (keyOf_ hs) (d:=.held val) (ps:=[]) (val:=val) rfl
 have hk : CellsKept W w':=by
  obtain ⟨es,clock,hb,_⟩:=h
  exact .grown hg' hb
 unfold Oper.wp
 simp [execOp,hop,hm,hx,hv,hrun,Result.andThen]
 exact hK w' (MapD.of h' ((hr.put (KL s) hd).cells hk)) hg' hk
theorem del_event {W : World} (hg : o.guard = none) (m x : Operand) (hop : o.op = Op.call { callee:=Callee.builtin Builtin.delete,args:=#[m,x],argTypes:=#[86,9] }) (b : Nat) (M : DataW S34) (s : ByteArray) (hm : a.eval m = .map (some b)) (hx : a.eval x = .string s) (hs : s.size ≤ maxLen) (h : MapD W b M)
  (hK : ∀ w',MapD w' b (M.del (KL s)) → W.grownBy w' (some b) → CellsKept W w' → wpList Tryz.prog ops Q rest (a.put o.dst (.tuple #[])) w') : wpList Tryz.prog ops Q (o :: rest) a W:=by
 obtain ⟨D,h,hr⟩:=h
 refine wpList_delete_own W hg m x 86 9 hop 34 keyed_ Tryz.underlying86 RV b _ D hm h (.string s) (KL s) hx (keyOf_ hs) (fun w' h' ht=>?_)
 have hk : CellsKept W w':=by
  obtain ⟨es,clock,hb,_⟩:=h
  exact .grown ht.grown hb
 exact hK w' (MapD.of h' ((hr.del (KL s)).cells hk)) ht.grown hk
theorem len_event {W : World} (hg : o.guard = none) (m : Operand) (hop : o.op = Op.call { callee:=Callee.builtin Builtin.len,args:=#[m],argTypes:=#[86] }) (b : Nat) (M : DataW S34) (hm : a.eval m = .map (some b)) (h : MapD W b M)
  (hK : wpList Tryz.prog ops Q rest (a.put o.dst (.int .i64 (Maps.size M))) W) : wpList Tryz.prog ops Q (o :: rest) a W:=by
 obtain ⟨D,h,hr⟩:=h
 refine wpList_len_own W hg m 86 hop 9 34 Tryz.underlying86 RV b _ D hm h ?_
 rw [hr.size]
 exact hK
theorem len_nil_event {W : World} (hg : o.guard = none) (m : Operand) (hop : o.op = Op.call { callee:=Callee.builtin Builtin.len,args:=#[m],argTypes:=#[86] }) (hm : a.eval m = .map none)
  (hK : wpList Tryz.prog ops Q rest (a.put o.dst (.int .i64 0)) W) : wpList Tryz.prog ops Q (o :: rest) a W:=by
 refine wpList_plain hg fun K' hK'=>?_
 unfold Oper.wp
 simp [execOp,hop,resolve,invoke,builtin,hm,Maps.len_nil (k:=9) (e:=34) Tryz.underlying86 o.type,Result.andThen]
 exact hK' _ _ hK
end
end Go.Proofs.YtmlebgikdegjjaaGreatDoor.Hd
