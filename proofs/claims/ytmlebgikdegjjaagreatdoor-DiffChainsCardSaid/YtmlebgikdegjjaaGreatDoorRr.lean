/- A region that draws its order, in a round of a range over a function: what holds in the plain calculus holds there, where no operation defers. -/
import Derived.OrdersIn
import Derived.RangeFuncNested
import Derived.Test.YtmlebgikdegjjaaGreatDoorWWords
namespace Go.Proofs.YtmlebgikdegjjaaGreatDoor.Rr
open Go.RowKit Go.Proofs.YtmlebgikdegjjaaGreatDoorW.PrintLast
set_option linter.unusedVariables false
section
variable {n : Nat} {P : Program} {ops : Array Oper} {Q : Exit → Act → World → Prop} {md : Region.Mode} {l : Nat}
def noDefer (ops : Array Oper) : Bool:=ops.all fun o=>match o.op with | .defer _=>false | _=>true
theorem noDefer_at (h : noDefer ops = true) {i : Nat} {o : Oper} (ho : ops[i]? = some o) (c : Call) : o.op ≠ .defer c:=by
 intro e
 obtain ⟨hi,rfl⟩:=Array.getElem?_eq_some_iff.1 ho
 have h_:=Array.all_eq_true.1 h i hi
 simp only [e] at h_
 cases h_
theorem calls_round {f : FuncId} {args : Array Value} {w : World} {R : Ending → World → Prop} (m : Nat) (h : Calls P f args w R) : CallsIn (Fence.wide.inRound l) m P f args w R:=callsIn_wide.2 h
theorem rows_round {row : String} {args : Array Value} {w : World} {R : Value → World → Prop} (m : Nat) (h : Rows P row args w R) : RowsIn (Fence.wide.inRound l) m P row args w R:=fun c cs _=>by
 obtain ⟨v,w',r,s⟩:=h c cs
 exact ⟨v,w',r,stepsIn_wide.2 s⟩
theorem wp_round {o : Oper} {a : Act} {w : World} {K : Act → World → Prop} (hd : ∀ c,o.op ≠ .defer c) (h : o.wp P a w K Q) : o.wpIn (Fence.wide.inRound l) n P a w K Q:=by
 refine ⟨fun _ _=>trivial,?_⟩
 rw [Oper.semAt_eq _ _ _ hd]
 unfold Oper.wp at h
 generalize (execOp a.eval o).run P w = r at *
 cases r with
 | ok x w' =>
  cases x <;> simp only [Oper.uponIn,Oper.upon] at h ⊢
  case value=>exact h
  case skip=>exact h
  case defer=>exact h
  case enter=>exact ⟨fun e=>absurd e (by simp [Fence.wide]),calls_round _ h⟩
  case row=>exact ⟨fun e=>absurd e (by simp [Fence.wide]),rows_round _ h⟩
 | halt x w'=>cases x <;> simp only [Oper.uponIn,Oper.upon] at h ⊢ <;> exact h
theorem wpOp_round (hd : noDefer ops = true) (hlo : ¬ LetsOut Q) {i : Nat} {a : Act} {w : World} {K : Act → World → Prop} (h : wpOp P ops Q i K a w) : wpOpIn (Fence.wide.inRound l) n P ops Q i K a w:=by
 unfold wpOp at h
 unfold wpOpIn
 cases ho : ops[i]? with
 | none=>rw [ho] at h;exact h
 | some o =>
  rw [ho] at h
  dsimp only at h ⊢
  cases hw : Region.wanted o (yielded ops a.tmps) with
  | true =>
   rw [hw] at h
   rw [if_pos rfl] at h ⊢
   rcases h with h | h
   ·exact wp_round (noDefer_at hd ho) h
   ·exact absurd h.2 hlo
  | false =>
   rw [hw] at h
   rw [if_neg (by simp)] at h ⊢
   exact ⟨fun _ _=>trivial,h⟩
theorem wpAny_round (hd : noDefer ops = true) (hlo : ¬ LetsOut Q) : ∀ (fuel : Nat) (listed : Array Bool) (a : Act) (w : World),wpAny P md ops Q fuel listed a w → wpAnyIn (Fence.wide.inRound l) n P md ops Q fuel listed a w
 | 0,_,_,_,h=>h
 | fuel + 1,_,_,_,h=>⟨h.1,fun i hi=>wpOpIn_mono (fun a' w' h'=>wpAny_round hd hlo fuel _ a' w' h') (wpOp_round hd hlo (h.2 i hi))⟩
theorem start_round {S : World → Prop} {ds : List Nat} {id m : Nat} {a : Act} {w : World} (li : Array Bool) (hm : P.follows .mixedOrders = true) (hn : ops.size = m) (hl : Array.replicate m false = li) (hd : noDefer ops = true) (hlo : ¬ LetsOut Q) (hS : S w.drew)
  (h : S w.drew → wpAnyLast P .any ops Q S ds m li a w.drew) : (Code.region id ops true).wpIn (Fence.wide.inRound l) n P Q a w:=by
 subst hn
 subst hl
 exact wpIn_region_any hm (wpAny_round hd hlo _ _ _ _ (wpAny_of_last _ _ _ _ (h hS)))
end
end Go.Proofs.YtmlebgikdegjjaaGreatDoor.Rr
