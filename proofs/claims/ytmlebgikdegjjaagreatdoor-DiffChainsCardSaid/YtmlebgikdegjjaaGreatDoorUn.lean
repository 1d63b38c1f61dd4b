/- The iterator of a nil snapshot gives nothing. -/
import Derived.Test.YtmlebgikdegjjaaGreatDoorUc
set_option maxHeartbeats 16000000
set_option maxRecDepth 100000
namespace Go.Proofs.YtmlebgikdegjjaaGreatDoor.Hd
open Go.Maps Go.RowKit Go.Proofs.YtmlebgikdegjjaaGreatDoor.Rq Go.Proofs.YtmlebgikdegjjaaGreatDoorW.PrintWords Go.Proofs.YtmlebgikdegjjaaGreatDoorW.PrintLast Go.Proofs.YtmlebgikdegjjaaGreatDoorW.PrintMore Go.Proofs.YtmlebgikdegjjaaGreatDoor.PAll
attribute [local go_sem] max2_int min2_int max_two min_two max_three min_three max_four min_four
set_option linter.unusedVariables false
set_option linter.unusedSimpArgs false
attribute [local go_sem] Oper.semAt_some
theorem it_seq_nil (XM : Nat → Prop) (n : Nat) (hn : 6 ≤ n) (w : World) (gb : Nat) (P : S34 → Prop) (h1 : w.cell? ⟨gb,0,none⟩ = some (.pointer none)) :
  SeqQ n Tryz.prog 105 #[.pointer (some ⟨gb,0,none⟩)] encE (KpR XM) (Qe P) (fun xs=>xs.map (·.1) = ([] : List S34)) (fun pre=>pre.map (·.1) <+: ([] : List S34)) 0 w:=by
 intro l J Jx W hW hJ hJx hY h0
 have c1:=pC hW h1
 clear h1 hW
 have hn1 : 1 ≤ n - 1:=by omega
 have hn0 : 1 ≤ n:=by omega
 have hf0 : Fence.wide.fn 65:=trivial
 have hf1 : Fence.wide.fn 106:=trivial
 have hf2 : Fence.wide.fn 93:=trivial
 refine callsIn_of_wp Tryz.func105 rfl trivial ?_ rfl
 simp only [Tryz.ntmps105,List.size_toArray,List.length_cons,List.length_nil,Nat.reduceAdd,Nat.reduceSub,Array.replicate_succ,Array.replicate_zero,List.push_toArray,List.append_toArray,List.nil_append,List.cons_append]
 gi_wp2_with (first
  | (gi_at_call 65;refine (callsIn_wide.2 (all_nil _)).mono ?_;rintro e w1 ⟨rfl,hw_⟩;rw [hw_])
  | (gi_at_call 106;refine (callsIn_wide.2 (callsIn_wide.1 (Tryz.maps_Keys_106 _ _))).mono ?_;rintro e w2 ⟨rfl,rfl⟩)
  | (gi_at_call 93;refine (callsIn_wide.2 (callsIn_wide.1 (Tryz.slices_Sorted_keys_nil_93_106 _))).mono ?_;rintro e w3 ⟨v3,ss,rfl,hss,_,hv3,hbk⟩;obtain ⟨n0,hn0_,rfl⟩ : ∃ n0 : Nat,n0 = 0 ∧ v3 = .slice none n0 n0:=⟨0,rfl,hv3.2 hss⟩;have HN0:=As.mk hn0_;clear hn0_ hv3))
 have hb3 : Below W.heap.size W w3:=below_then (bA (Below.refl _ W) _) (bA (Below.refl _ W) _).size hbk
 have hJ3 : J [] w3:=hJ _ _ _ none h0 (grown_of_below hb3 none) (fun r e=>by cases e)
 clear hJ hJx hY h0 hb3 hbk hss c1
 gi_loopw [10] (fun i wr=>i = .int .i64 0 ∧ As (J [] wr)) (fun _ _=>0)
 case atStart=>exact ⟨rfl,⟨hJ3⟩⟩
 case round =>
  obtain ⟨rfl,HJP⟩:=hrel
  have c0_ : decide ((0 : Int) < (n0 : Int)) = false:=decide_eq_false (by have:=HN0.out;omega)
  have c1_ : ((0 : Int) < (n0 : Int)) = False:=eq_false (by have:=HN0.out;omega)
  have c2_ : (0 < n0) = False:=eq_false (by have:=HN0.out;omega)
  gi_wp2
  go_end0
  exact ⟨⟨_,rfl⟩,.inl ⟨[],rfl,HJP.out⟩⟩
end Go.Proofs.YtmlebgikdegjjaaGreatDoor.Hd
