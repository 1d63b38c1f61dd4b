/- A range over a function whose elements lead to memory: what the iterator and a round owe each other, and the law for the caller. -/
import Derived.RangeFuncNested
import Derived.RangeFuncBound
import Derived.RangeFuncCalls
import Derived.RangeFuncLeaves
import Derived.Shelf.Abstract
import Derived.Shelf.RegionOpen
import Derived.OwnWalkIn
import Derived.TacticsInMore
import Derived.LoopNIn
import Derived.LoopIn
import Derived.Test.YtmlebgikdegjjaaGreatDoorWWords
namespace Go.Proofs.YtmlebgikdegjjaaGreatDoor.Rq
open Go.RowKit
set_option linter.unusedVariables false
def SeqQ {α : Type} (n : Nat) (P : Program) (g : Nat) (lb : Array Value) (encs : α → Array Value) (Kp : World → World → Prop) (Qe : α → World → Prop) (S Sp : List α → Prop) (N : Nat) (w : World) : Prop :=
 ∀ (l : Nat) (J Jx : List α → World → Prop) (W : World),Below w.heap.size w W → AbidesFrom W.heap.size J → AbidesFrom W.heap.size Jx →
  (∀ pre x W1,J pre W1 → Qe x W1 → pre.length < N → YieldAt Fence.wide (n - 1) P l (encs x) W1 fun e W'=>(e = .returned (.bool true) ∧ J (pre ++ [x]) W' ∧ Kp W1 W') ∨ (e = .returned (.bool false) ∧ Jx (pre ++ [x]) W')) → J [] W →
  CallsIn Fence.wide n P g (#[.func (.yield l) #[] #[]] ++ lb) W fun e W'=>(∃ v,e = .returned v) ∧ ((∃ xs,S xs ∧ J xs W') ∨ (∃ pre,Sp pre ∧ Jx pre W'))
def Post {α : Type} (B : Nat) (Kp : World → World → Prop) (I Ir : List α → World → Prop) (xs : List α) (W : World) : Exit → Act → World → Prop
 | .normal,_,W'=>KeepsFrom B W W' ∧ Kp W W' ∧ I xs W'
 | .ret,_,W'=>KeepsFrom B W W' ∧ Ir xs W'
 | _,_,_=>False
section
variable {n : Nat} {P : Program}
theorem range_q {α : Type} {g : Operand} {ps : Array Tmp} {assign body : Code} {Q : Exit → Act → World → Prop} {a : Act} {w w0 : World} (h1 : 1 ≤ n) {gf : Nat} {lb : Array Value}
  (hg : a.eval g = .func (.func gf) #[] lb) (eg : ∀ args w,(callFunc gf args).run P w = .ok (.enter gf args) w)
  {encs : α → Array Value} {Kp : World → World → Prop} {Qe : α → World → Prop} {S Sp : List α → Prop} {N : Nat} (hseq : SeqQ (n - 1) P gf lb encs Kp Qe S Sp N w0)
  (hKt : ∀ {A B C : World},Kp A B → Kp B C → Kp A C) (hKb : ∀ (W : World) (l : Nat) (o o' : Obj),w.heap.size ≤ l → W.heap[l]? = some o → o.isCells = false → o.isWalk = false → Kp W (W.putObj l o'))
  (hb0 : Below w0.heap.size w0 w) (hps : ∀ x,(encs x).size = ps.size)
  (I Ir : List α → World → Prop) (hI : OwnFrom w.heap.size I) (hIr : OwnFrom w.heap.size Ir) (h0 : I [] w) (Ax : α → Act → World → Prop) (hAx : ∀ x a',OwnFrom w.heap.size (fun (_ : Unit) W=>Ax x a' W))
  (hassign : ∀ (l : Nat) (pre : List α) (x : α) (W : World) (K : Act → World → Prop),I pre W → Qe x W → (∀ a' W',KeepsFrom w.heap.size W W' → Kp W W' → I pre W' → Ax x a' W' → K a' W') →
   assign.wpIn (Fence.wide.inRound l) (n - 1 - 1) P (Exit.then K (fun _ _ _=>False)) { tmps:=(ps.zip (encs x)).foldl (fun t (p,v)=>t.setIfInBounds p v) a.tmps,defers:=[] } W)
  (hbody : ∀ (l : Nat) (pre : List α) (x : α) (a' : Act) (W : World),I pre W → Ax x a' W → pre.length < N → body.wpIn (Fence.wide.inRound l) (n - 1 - 1) P (Post w.heap.size Kp I Ir (pre ++ [x]) W) a' W)
  (hdone : ∀ (D : Nat) (xs : List α) (W : World),w.heap.size ≤ D → S xs → I xs W → W.heap[D]? = some (.deferred (some [])) → Q .normal { a with defers:={ target:=.collected D,args:=#[] } :: a.defers } W)
  (hstop : ∀ (D : Nat) (pre : List α) (W : World),w.heap.size ≤ D → Sp pre → Ir pre W → W.heap[D]? = some (.deferred (some [])) → Code.ret.wpIn Fence.wide n P Q { a with defers:={ target:=.collected D,args:=#[] } :: a.defers } W) :
  (Code.rangeFunc g ps assign body).wpIn Fence.wide n P Q a w:=by
 refine wpIn_rangeFunc (fun fn hfn=>?_)
 rw [show Fence.wide.round = none from rfl]
 obtain ⟨rc,hrc⟩ : ∃ rc : LoopState → Option Code → Loop,rc = fun st pe=>{ state:=st,pending:=pe,fn,tmps:=a.tmps,params:=ps,assign,body,defers:=w.heap.size }:=⟨_,rfl⟩
 -- the two blocks of the loop's books: w.heap.size (deferred calls),w.heap.size + 1 (the record)
 have hD : ((w.alloc (.deferred (some []))).alloc (.loop (rc .ready none))).heap[w.heap.size]? = some (.deferred (some [])):=(Below.heap_alloc _ _ _ (by simp)).trans (World.alloc_heap_new w _)
 have hL : ((w.alloc (.deferred (some []))).alloc (.loop (rc .ready none))).heap[w.heap.size + 1]? = some (.loop (rc .ready none)):=by
  have h_:=World.alloc_heap_new (w.alloc (.deferred (some []))) (.loop (rc .ready none))
  rwa [World.size_alloc] at h_
 have hS : I [] ((w.alloc (.deferred (some []))).alloc (.loop (rc .ready none))):=hI.alloc _ (hI.alloc _ h0)
 have hB1 : Below w0.heap.size w0 ((w.alloc (.deferred (some []))).alloc (.loop (rc .ready none))):=hb0.trans ((((Below.refl _ w).alloc (Nat.le_refl _) _).alloc (by simp) _).mono hb0.size)
 have hsz : ((w.alloc (.deferred (some []))).alloc (.loop (rc .ready none))).heap.size = w.heap.size + 2:=by simp
 obtain ⟨W1,hW1⟩ : ∃ W1,W1 = (w.alloc (.deferred (some []))).alloc (.loop (rc .ready none)):=⟨_,rfl⟩
 rw [← hW1] at hD hL hS hB1 hsz
 refine ⟨w.heap.size + 1,[{ target:=.collected w.heap.size,args:=#[] }],W1,{ target:=.fn (.func gf) lb,args:=#[.func (.yield (w.heap.size + 1)) #[] #[]] },W1,gf,#[.func (.yield (w.heap.size + 1)) #[] #[]] ++ lb,W1,by rw [hW1,hrc];exact run_enterLoop_outer _ _ _ _ _,?_,?_,?_,fun _=>h1,?_⟩
 ·simp only [resolve,hg]
  simp [go_sem]
 ·intro f' hf'
  simp [Target.leads] at hf'
  subst hf'
  trivial
 ·simp [invoke,go_sem,eg]
 clear hW1
 have books : ∀ {X : World} {row : Option Nat},(∀ r,row = some r → W1.heap.size ≤ r ∧ ∃ o : Obj,X.heap[r]? = some o ∧ o.isWalk = true) → ∀ r,row = some r → w.heap.size ≤ r ∧ ∃ o : Obj,X.heap[r]? = some o ∧ o.isCells = false:=fun hr r e=>by
  obtain ⟨h2,o,ho,hw⟩:=hr r e
  exact ⟨by omega,o,ho,Obj.not_cells_of_walk hw⟩
 refine (hseq (w.heap.size + 1) (fun pre W=>I pre W ∧ W.heap[w.heap.size + 1]? = some (.loop (rc .ready none)) ∧ W.heap[w.heap.size]? = some (.deferred (some [])))
  (fun pre W=>Ir pre W ∧ W.heap[w.heap.size + 1]? = some (.loop (rc .done (some .ret))) ∧ W.heap[w.heap.size]? = some (.deferred (some []))) W1 hB1
  (fun s X Y row hs hg' hr=>⟨hI s X Y row hs.1 hg' (books hr),(grownBy_keeps hg' (fun r e=>(hr r e).2) hs.2.1 rfl).trans hs.2.1,(grownBy_keeps hg' (fun r e=>(hr r e).2) hs.2.2 rfl).trans hs.2.2⟩)
  (fun s X Y row hs hg' hr=>⟨hIr s X Y row hs.1 hg' (books hr),(grownBy_keeps hg' (fun r e=>(hr r e).2) hs.2.1 rfl).trans hs.2.1,(grownBy_keeps hg' (fun r e=>(hr r e).2) hs.2.2 rfl).trans hs.2.2⟩) ?_ ⟨hS,hL,hD⟩).mono ?_
 ·rintro pre x W ⟨hi,hl,hk⟩ hq hlen
  have hy:=run_yield (P:=P) (args:=encs x) hl (by rw [hrc];exact hps x)
  rw [hrc] at hy
  refine ⟨fn,_,assign,body,hy,roundIn_of_wpIn hfn (hassign _ pre x W _ hi hq (fun a' V hkf hkp hiv hax=>?_))⟩
  have vl:=hkf.same _ _ (by omega) hl rfl
  have vk:=hkf.same _ _ (Nat.le_refl _) hk rfl
  have vlt : w.heap.size + 1 < V.heap.size:=(Array.getElem?_eq_some_iff.1 vl).1
  refine ⟨_,run_beginRound vl (by rw [hrc]),?_⟩
  have bl : (V.putObj (w.heap.size + 1) (.loop { rc .ready none with state:=.busy })).heap[w.heap.size + 1]? = some (.loop { rc .ready none with state:=.busy }):=World.putObj_heap_same vlt
  have bk : (V.putObj (w.heap.size + 1) (.loop { rc .ready none with state:=.busy })).heap[w.heap.size]? = some (.deferred (some [])):=(World.putObj_heap_other (by omega)).trans vk
  have bp : Kp V (V.putObj (w.heap.size + 1) (.loop { rc .ready none with state:=.busy })):=hKb _ _ _ _ (by omega) vl rfl rfl
  refine wpIn_mono (hbody _ pre x a' _ (hI.putObj _ hiv (by omega) vl rfl) ((hAx x a').putObj (s:=()) _ hax (by omega) vl rfl) hlen) ?_
  have fin : ∀ (jump : Option Code) (Z : World),KeepsFrom w.heap.size (V.putObj (w.heap.size + 1) (.loop { rc .ready none with state:=.busy })) Z →
    (Instr.endRound (w.heap.size + 1) jump).run P Z = .ok (.bool jump.isNone) (Z.putObj (w.heap.size + 1) (.loop (rc (if jump.isNone then .ready else .done) jump))) ∧ Z.heap[w.heap.size + 1]? = some (.loop { rc .ready none with state:=.busy }) ∧
    (Z.putObj (w.heap.size + 1) (.loop (rc (if jump.isNone then .ready else .done) jump))).heap[w.heap.size + 1]? = some (.loop (rc (if jump.isNone then .ready else .done) jump)) ∧
    (Z.putObj (w.heap.size + 1) (.loop (rc (if jump.isNone then .ready else .done) jump))).heap[w.heap.size]? = some (.deferred (some [])):=fun jump Z hz=>by
   have zl:=hz.same _ _ (by omega) bl rfl
   have hr:=run_endRound (P:=P) jump zl
   rw [hrc] at hr zl ⊢
   exact ⟨hr,zl,World.putObj_heap_same (Array.getElem?_eq_some_iff.1 zl).1,(World.putObj_heap_other (by omega)).trans (hz.same _ _ (Nat.le_refl _) bk rfl)⟩
  rintro e a3 Z hp
  cases e with
  | normal =>
   obtain ⟨hz,hkz,hiz⟩:=hp
   obtain ⟨hr,z1,z2,z3⟩:=fin none Z hz
   exact ⟨_,_,hr,.inl ⟨rfl,⟨hI.putObj _ hiz (by omega) z1 rfl,z2,z3⟩,hKt hkp (hKt (hKt bp hkz) (hKb _ _ _ _ (by omega) z1 rfl rfl))⟩⟩
  | ret =>
   obtain ⟨hz,hiz⟩:=hp
   obtain ⟨hr,z1,z2,z3⟩:=fin (some .ret) Z hz
   exact ⟨_,_,hr,.inr ⟨rfl,hIr.putObj _ hiz (by omega) z1 rfl,z2,z3⟩⟩
  | exit id=>exact hp.elim
  | goto t=>exact hp.elim
  | panic ch=>exact hp.elim
  | outgrown=>exact hp.elim
 ·rintro e Z ⟨⟨v,rfl⟩,(⟨xs,hs,hi,hl,hk⟩ | ⟨pre,hs,hi,hl,hk⟩)⟩
  ·exact ⟨none,_,by have h_:=run_endLoop (P:=P) hl (by rw [hrc];simp);rw [hrc] at h_;exact h_,hdone _ xs _ (Nat.le_refl _) hs (hI.putObj _ hi (by omega) hl rfl) ((World.putObj_heap_other (by omega)).trans hk)⟩
  ·exact ⟨some .ret,_,by have h_:=run_endLoop (P:=P) hl (by rw [hrc];simp);rw [hrc] at h_;exact h_,hstop _ pre _ (Nat.le_refl _) hs (hIr.putObj _ hi (by omega) hl rfl) ((World.putObj_heap_other (by omega)).trans hk)⟩
end
end Go.Proofs.YtmlebgikdegjjaaGreatDoor.Rq
