/- Snap.Get: the definition of a key. -/
import Derived.Test.YtmlebgikdegjjaaGreatDoorUc
import Derived.Test.YtmlebgikdegjjaaGreatDoorSc
import Derived.Laws.ResultCell
set_option maxHeartbeats 16000000
set_option maxRecDepth 100000
namespace Go.Proofs.YtmlebgikdegjjaaGreatDoor.Hd
open Go.Maps Go.RowKit Go.Proofs.YtmlebgikdegjjaaGreatDoorW.PrintWords Go.Proofs.YtmlebgikdegjjaaGreatDoorW.PrintLast Go.Proofs.YtmlebgikdegjjaaGreatDoorW.PrintMore Go.Proofs.YtmlebgikdegjjaaGreatDoor.PAll
attribute [local go_sem] max2_int min2_int max_two min_two max_three min_three max_four min_four
set_option linter.unusedVariables false
set_option linter.unusedSimpArgs false
theorem look_same {x : DataW S34} {a b : S34} (h : x = .held a) (k : x = .held b) : a = b:=by
 rw [h] at k
 injection k
theorem clone_R (w : World) (d : S34) (A2 : Option Addr) (c2 : Nat) (hc2 : d.f3.length ≤ c2) (hr2 : Kd.string.C w A2 d.f3.length d.f3) (hl : d.f3.length ≤ 1000000) :
  Calls Tryz.prog 61 #[.agg #[.int .i64 d.f0,.string d.f1,.string d.f2,.slice A2 d.f3.length c2,.string d.f4,.string d.f5]] w fun e w'=>∃ v3,e = .returned (.agg #[.int .i64 d.f0,.string d.f1,.string d.f2,v3,.string d.f4,.string d.f5]) ∧ Kd.string.R 9 w' w.heap.size (fun k=>w.heap.size ≤ k) v3 d.f3 ∧ Below w.heap.size w w':=by
 refine (snap_clone.calls d.f0 d.f1 d.f2 A2 c2 d.f3 d.f4 d.f5 d.f0 d.f1 d.f2 d.f3 d.f4 d.f5 w hr2 hc2 ?_).mono ?_
 ·unfold snap_clone.f slices_Clone_string_string.f
  rw [if_pos (by omega),Option.bind_some]
 ·rintro e w' ⟨v3,rfl,ho,hb⟩
  exact ⟨v3,rfl,Kd.R_mono (Kd.R_bound ho) (fun k hk=>hk.2.1),hb⟩
theorem clone_Z (w : World) : Calls Tryz.prog 61 #[.agg #[.int .i64 0,.string ⟨#[]⟩,.string ⟨#[]⟩,.slice none 0 0,.string ⟨#[]⟩,.string ⟨#[]⟩]] w fun e w'=>∃ v3,e = .returned (.agg #[.int .i64 0,.string ⟨#[]⟩,.string ⟨#[]⟩,v3,.string ⟨#[]⟩,.string ⟨#[]⟩]) ∧ Kd.string.R 9 w' w.heap.size (fun k=>w.heap.size ≤ k) v3 [] ∧ Below w.heap.size w w' :=
 clone_R w z34 none 0 (Nat.le_refl _) (Kd.C_nil _ _) (Nat.zero_le _)
theorem get_no (w : World) (p : Option Addr) (M : DataW S34) (ky : ByteArray) (h : SnR w (.pointer p) M) (hs : ky.size ≤ maxLen) (hh : Maps.has M (KL ky) = false) :
  Calls Tryz.prog 32 #[.pointer p,.string ky] w fun e w'=>∃ A3 c3,e = .returned (.tuple #[.agg #[.int .i64 0,.string ⟨#[]⟩,.string ⟨#[]⟩,.slice A3 0 c3,.string ⟨#[]⟩,.string ⟨#[]⟩],.bool false]) ∧ Kd.string.C w' A3 0 [] ∧ Below w.heap.size w w':=by
 have hu34:=Tryz.underlying34
 obtain ⟨gs,bm,he_,hcs,hms⟩:=h
 injection he_ with he_
 subst he_
 have HKS:=As.mk hs
 have HH:=As.mk hh
 clear hs hh
 go_enter Tryz.func32,Tryz.ntmps32
 go_upto_region 1 with (fail)
 have bk4:=blk_new w (Obj.cells #[.int .i64 0,.string ⟨#[]⟩,.string ⟨#[]⟩,.slice none 0 0,.string ⟨#[]⟩,.string ⟨#[]⟩] 34)
 have hb_:=bA (Below.refl w.heap.size w) (Obj.cells #[.int .i64 0,.string ⟨#[]⟩,.string ⟨#[]⟩,.slice none 0 0,.string ⟨#[]⟩,.string ⟨#[]⟩] 34)
 generalize w.alloc (Obj.cells #[.int .i64 0,.string ⟨#[]⟩,.string ⟨#[]⟩,.slice none 0 0,.string ⟨#[]⟩,.string ⟨#[]⟩] 34) = W1 at bk4 hb_ ⊢
 obtain ⟨g4,hg4⟩ : ∃ g4,g4 = w.heap.size:=⟨_,rfl⟩
 rw [← hg4] at bk4 ⊢
 have HG4:=As.mk hg4
 have HC1:=As.mk (pC hb_ hcs)
 have HM1:=As.mk (hms.below hb_)
 have HB1:=As.mk hb_
 have BK1:=As.mk bk4
 clear hb_ bk4 hg4 hcs hms
 go_upto_region 2 with (first | (go_at_call 65;(with_reducible refine (all_some _ gs bm HC1.out).mono ?_);rintro e wz ⟨rfl,hw_⟩;rw [hw_]) | (at_lookup;refine look_no rfl _ _ rfl bm M ky rfl rfl HKS.out HM1.out HH.out ?_))
 have bk6:=blk_new W1 (Obj.cells #[.int .i64 0,.string ⟨#[]⟩,.string ⟨#[]⟩,.slice none 0 0,.string ⟨#[]⟩,.string ⟨#[]⟩] 34)
 have hb_:=bA (Below.refl W1.heap.size W1) (Obj.cells #[.int .i64 0,.string ⟨#[]⟩,.string ⟨#[]⟩,.slice none 0 0,.string ⟨#[]⟩,.string ⟨#[]⟩] 34)
 generalize W1.alloc (Obj.cells #[.int .i64 0,.string ⟨#[]⟩,.string ⟨#[]⟩,.slice none 0 0,.string ⟨#[]⟩,.string ⟨#[]⟩] 34) = W2 at bk6 hb_ ⊢
 obtain ⟨g6,hg6⟩ : ∃ g6,g6 = W1.heap.size:=⟨_,rfl⟩
 rw [← hg6] at bk6 ⊢
 have BK4:=As.mk (blk_below BK1.out hb_)
 have HG:=As.mk (show g4 < W2.heap.size ∧ g4 ≠ g6 from ⟨blk_lt BK4.out,by have h1_:=blk_lt BK1.out;omega⟩)
 have HB:=As.mk (bS HB1.out hb_)
 have q6_0 : W2.cell? ⟨g6,0,none⟩ = some (.int .i64 0):=(bC bk6 0).trans rfl;have q6f_0 : W2.frozen? ⟨g6,0,none⟩ = false:=bF bk6 0;have q6_1 : W2.cell? ⟨g6,1,none⟩ = some (.string ⟨#[]⟩):=(bC bk6 1).trans rfl;have q6f_1 : W2.frozen? ⟨g6,1,none⟩ = false:=bF bk6 1;have q6_2 : W2.cell? ⟨g6,2,none⟩ = some (.string ⟨#[]⟩):=(bC bk6 2).trans rfl;have q6f_2 : W2.frozen? ⟨g6,2,none⟩ = false:=bF bk6 2;have q6_3 : W2.cell? ⟨g6,3,none⟩ = some (.slice none 0 0):=(bC bk6 3).trans rfl;have q6f_3 : W2.frozen? ⟨g6,3,none⟩ = false:=bF bk6 3;have q6_4 : W2.cell? ⟨g6,4,none⟩ = some (.string ⟨#[]⟩):=(bC bk6 4).trans rfl;have q6f_4 : W2.frozen? ⟨g6,4,none⟩ = false:=bF bk6 4;have q6_5 : W2.cell? ⟨g6,5,none⟩ = some (.string ⟨#[]⟩):=(bC bk6 5).trans rfl;have q6f_5 : W2.frozen? ⟨g6,5,none⟩ = false:=bF bk6 5
 have q4_0 : W2.cell? ⟨g4,0,none⟩ = some (.int .i64 0):=(bC BK4.out 0).trans rfl;have q4f_0 : W2.frozen? ⟨g4,0,none⟩ = false:=bF BK4.out 0;have q4_1 : W2.cell? ⟨g4,1,none⟩ = some (.string ⟨#[]⟩):=(bC BK4.out 1).trans rfl;have q4f_1 : W2.frozen? ⟨g4,1,none⟩ = false:=bF BK4.out 1;have q4_2 : W2.cell? ⟨g4,2,none⟩ = some (.string ⟨#[]⟩):=(bC BK4.out 2).trans rfl;have q4f_2 : W2.frozen? ⟨g4,2,none⟩ = false:=bF BK4.out 2;have q4_3 : W2.cell? ⟨g4,3,none⟩ = some (.slice none 0 0):=(bC BK4.out 3).trans rfl;have q4f_3 : W2.frozen? ⟨g4,3,none⟩ = false:=bF BK4.out 3;have q4_4 : W2.cell? ⟨g4,4,none⟩ = some (.string ⟨#[]⟩):=(bC BK4.out 4).trans rfl;have q4f_4 : W2.frozen? ⟨g4,4,none⟩ = false:=bF BK4.out 4;have q4_5 : W2.cell? ⟨g4,5,none⟩ = some (.string ⟨#[]⟩):=(bC BK4.out 5).trans rfl;have q4f_5 : W2.frozen? ⟨g4,5,none⟩ = false:=bF BK4.out 5
 clear hb_ bk6 hg6
 go_wp2_with (first | (go_at_call 61;(with_reducible refine (clone_Z _).mono ?_);rintro e wc ⟨v3,rfl,ho_,hb_⟩;obtain ⟨A3,c3,rfl⟩:=Kd.R_slice ho_;rw [List.length_nil] at ho_;rw [List.length_nil];have n0_:=As.mk (bS HB.out hb_);have n4_:=blk_below BK4.out hb_;have HO:=As.mk ho_;clear HB hb_ ho_ q4_0 q4_1 q4_2 q4_3 q4_4 q4_5 q4f_0 q4f_1 q4f_2 q4f_3 q4f_4 q4f_5;have HB:=n0_;have q4_0 : wc.cell? ⟨g4,0,none⟩ = some (.int .i64 0):=(bC n4_ 0).trans rfl;have q4f_0 : wc.frozen? ⟨g4,0,none⟩ = false:=bF n4_ 0;have q4_1 : wc.cell? ⟨g4,1,none⟩ = some (.string ⟨#[]⟩):=(bC n4_ 1).trans rfl;have q4f_1 : wc.frozen? ⟨g4,1,none⟩ = false:=bF n4_ 1;have q4_2 : wc.cell? ⟨g4,2,none⟩ = some (.string ⟨#[]⟩):=(bC n4_ 2).trans rfl;have q4f_2 : wc.frozen? ⟨g4,2,none⟩ = false:=bF n4_ 2;have q4_3 : wc.cell? ⟨g4,3,none⟩ = some (.slice none 0 0):=(bC n4_ 3).trans rfl;have q4f_3 : wc.frozen? ⟨g4,3,none⟩ = false:=bF n4_ 3;have q4_4 : wc.cell? ⟨g4,4,none⟩ = some (.string ⟨#[]⟩):=(bC n4_ 4).trans rfl;have q4f_4 : wc.frozen? ⟨g4,4,none⟩ = false:=bF n4_ 4;have q4_5 : wc.cell? ⟨g4,5,none⟩ = some (.string ⟨#[]⟩):=(bC n4_ 5).trans rfl;have q4f_5 : wc.frozen? ⟨g4,5,none⟩ = false:=bF n4_ 5;clear n0_ n4_))
 (try simp only [Exit.inBlock,Exit.then])
 refine bodyPost_ret (v:=.tuple #[.agg #[.int .i64 0,.string ⟨#[]⟩,.string ⟨#[]⟩,.slice A3 0 c3,.string ⟨#[]⟩,.string ⟨#[]⟩],.bool false]) ?_ rfl ?_
 ·rw [results_cell_tmp rfl]
  go_simp
 refine ⟨A3,c3,rfl,?_,(by repeat (first | (with_reducible first | exact HB.out) | refine bT ?_ (Nat.le_of_eq HG4.out.symm)))⟩
 exact (Kd.R_reads' (d:=Kd.string) (e:=9) (base:=W2.heap.size) (ok:=fun k=>W2.heap.size ≤ k) (n:=0) (c:=c3) (by repeat (first | (with_reducible exact HO.out) | refine Kd.R_far (d:=Kd.string) (ok:=fun k=>W2.heap.size ≤ k) ?_ (fun k hk=>by have h1_ : W2.heap.size ≤ k:=hk;have h2_:=HG.out.1;show k ≠ g4;omega) _))).2.2
end Go.Proofs.YtmlebgikdegjjaaGreatDoor.Hd
