/- Snap.Get with the blocks of what it tells; diff.get. -/
import Derived.Test.YtmlebgikdegjjaaGreatDoorUw
import Derived.Test.YtmlebgikdegjjaaGreatDoorUg
import Derived.Test.YtmlebgikdegjjaaGreatDoorDa
set_option maxHeartbeats 16000000
set_option maxRecDepth 100000
namespace Go.Proofs.YtmlebgikdegjjaaGreatDoor.Hd
open Go.Maps Go.RowKit Go.Proofs.YtmlebgikdegjjaaGreatDoorW.PrintWords Go.Proofs.YtmlebgikdegjjaaGreatDoorW.PrintLast Go.Proofs.YtmlebgikdegjjaaGreatDoorW.PrintMore Go.Proofs.YtmlebgikdegjjaaGreatDoor.PAll
attribute [local go_sem] max2_int min2_int max_two min_two max_three min_three max_four min_four
set_option linter.unusedVariables false
set_option linter.unusedSimpArgs false
theorem get_yesV (w : World) (p : Option Addr) (M : DataW S34) (ky : ByteArray) (h : SnR w (.pointer p) M) (hs : ky.size ≤ maxLen) (d : S34) (hh : Maps.has M (KL ky) = true) (hat : ∀ z,M.atKey (KL ky) z = .held d) (hlv : d.f3.length ≤ 1000000) :
  Calls Tryz.prog 32 #[.pointer p,.string ky] w fun e w'=>∃ A3 c3,e = .returned (.tuple #[.agg #[.int .i64 d.f0,.string d.f1,.string d.f2,.slice A3 d.f3.length c3,.string d.f4,.string d.f5],.bool true]) ∧ d.f3.length ≤ c3 ∧ Kd.V Kd.string 9 w' 0 (fun k=>w.heap.size ≤ k) (.slice A3 d.f3.length c3) d.f3 ∧ Below w.heap.size w w':=by
 have HAT:=As.mk hat
 have HLV:=As.mk hlv
 clear hat hlv
 have hu34:=Tryz.underlying34
 obtain ⟨gs,bm,he_,hcs,hms⟩:=h
 injection he_ with he_
 subst he_
 have HKS:=As.mk hs
 have HH:=As.mk hh
 clear hs hh
 go_enter Tryz.func32,Tryz.ntmps32
 go_upto_region 1 with (fail)
 have bk4:=blk_new w (Obj.cells #[.int .i64 0,.string ⟨#[]⟩,.string ⟨#[]⟩,.slice none 0 0,.string ⟨#[]⟩,.string ⟨#[]⟩] 34)
 have hb_:=bA (Below.refl w.heap.size w) (Obj.cells #[.int .i64 0,.string ⟨#[]⟩,.string ⟨#[]⟩,.slice none 0 0,.string ⟨#[]⟩,.string ⟨#[]⟩] 34)
 generalize w.alloc (Obj.cells #[.int .i64 0,.string ⟨#[]⟩,.string ⟨#[]⟩,.slice none 0 0,.string ⟨#[]⟩,.string ⟨#[]⟩] 34) = W1 at bk4 hb_ ⊢
 obtain ⟨g4,hg4⟩ : ∃ g4,g4 = w.heap.size:=⟨_,rfl⟩
 rw [← hg4] at bk4 ⊢
 have HG4:=As.mk hg4
 have HC1:=As.mk (pC hb_ hcs)
 have HM1:=As.mk (hms.below hb_)
 have HB1:=As.mk hb_
 have BK1:=As.mk bk4
 clear hb_ bk4 hg4 hcs hms
 go_upto_region 2 with (first | (go_at_call 65;(with_reducible refine (all_some _ gs bm HC1.out).mono ?_);rintro e wz ⟨rfl,hw_⟩;rw [hw_]) | (at_lookup;refine look_yes rfl _ _ rfl bm M ky rfl rfl HKS.out HM1.out HH.out ?_;intro dz A2 c2 hz_ hl_ hC_;obtain rfl : d = dz:=(look_same (HAT.out .nil) (hz_ .nil));have HL2:=As.mk hl_;have HC2:=As.mk hC_;clear hl_ hC_ hz_))
 have bk6:=blk_new W1 (Obj.cells #[.int .i64 d.f0,.string d.f1,.string d.f2,.slice A2 d.f3.length c2,.string d.f4,.string d.f5] 34)
 have hb_:=bA (Below.refl W1.heap.size W1) (Obj.cells #[.int .i64 d.f0,.string d.f1,.string d.f2,.slice A2 d.f3.length c2,.string d.f4,.string d.f5] 34)
 generalize W1.alloc (Obj.cells #[.int .i64 d.f0,.string d.f1,.string d.f2,.slice A2 d.f3.length c2,.string d.f4,.string d.f5] 34) = W2 at bk6 hb_ ⊢
 obtain ⟨g6,hg6⟩ : ∃ g6,g6 = W1.heap.size:=⟨_,rfl⟩
 rw [← hg6] at bk6 ⊢
 have BK4:=As.mk (blk_below BK1.out hb_)
 have HG:=As.mk (show g4 < W2.heap.size ∧ g4 ≠ g6 from ⟨blk_lt BK4.out,by have h1_:=blk_lt BK1.out;omega⟩)
 have HB:=As.mk (bS HB1.out hb_)
 have HW2:=As.mk HB.out.size
 have q6_0 : W2.cell? ⟨g6,0,none⟩ = some (.int .i64 d.f0):=(bC bk6 0).trans rfl;have q6f_0 : W2.frozen? ⟨g6,0,none⟩ = false:=bF bk6 0;have q6_1 : W2.cell? ⟨g6,1,none⟩ = some (.string d.f1):=(bC bk6 1).trans rfl;have q6f_1 : W2.frozen? ⟨g6,1,none⟩ = false:=bF bk6 1;have q6_2 : W2.cell? ⟨g6,2,none⟩ = some (.string d.f2):=(bC bk6 2).trans rfl;have q6f_2 : W2.frozen? ⟨g6,2,none⟩ = false:=bF bk6 2;have q6_3 : W2.cell? ⟨g6,3,none⟩ = some (.slice A2 d.f3.length c2):=(bC bk6 3).trans rfl;have q6f_3 : W2.frozen? ⟨g6,3,none⟩ = false:=bF bk6 3;have q6_4 : W2.cell? ⟨g6,4,none⟩ = some (.string d.f4):=(bC bk6 4).trans rfl;have q6f_4 : W2.frozen? ⟨g6,4,none⟩ = false:=bF bk6 4;have q6_5 : W2.cell? ⟨g6,5,none⟩ = some (.string d.f5):=(bC bk6 5).trans rfl;have q6f_5 : W2.frozen? ⟨g6,5,none⟩ = false:=bF bk6 5
 have q4_0 : W2.cell? ⟨g4,0,none⟩ = some (.int .i64 0):=(bC BK4.out 0).trans rfl;have q4f_0 : W2.frozen? ⟨g4,0,none⟩ = false:=bF BK4.out 0;have q4_1 : W2.cell? ⟨g4,1,none⟩ = some (.string ⟨#[]⟩):=(bC BK4.out 1).trans rfl;have q4f_1 : W2.frozen? ⟨g4,1,none⟩ = false:=bF BK4.out 1;have q4_2 : W2.cell? ⟨g4,2,none⟩ = some (.string ⟨#[]⟩):=(bC BK4.out 2).trans rfl;have q4f_2 : W2.frozen? ⟨g4,2,none⟩ = false:=bF BK4.out 2;have q4_3 : W2.cell? ⟨g4,3,none⟩ = some (.slice none 0 0):=(bC BK4.out 3).trans rfl;have q4f_3 : W2.frozen? ⟨g4,3,none⟩ = false:=bF BK4.out 3;have q4_4 : W2.cell? ⟨g4,4,none⟩ = some (.string ⟨#[]⟩):=(bC BK4.out 4).trans rfl;have q4f_4 : W2.frozen? ⟨g4,4,none⟩ = false:=bF BK4.out 4;have q4_5 : W2.cell? ⟨g4,5,none⟩ = some (.string ⟨#[]⟩):=(bC BK4.out 5).trans rfl;have q4f_5 : W2.frozen? ⟨g4,5,none⟩ = false:=bF BK4.out 5
 have HC6:=As.mk (C_cells HC2.out (.below hb_))
 clear hb_ bk6 hg6
 go_wp2_with (first | (go_at_call 61;(with_reducible refine (clone_R _ d A2 c2 HL2.out HC6.out HLV.out).mono ?_);rintro e wc ⟨v3,rfl,ho_,hb_⟩;obtain ⟨A3,c3,rfl⟩:=Kd.R_slice ho_;have n0_:=As.mk (bS HB.out hb_);have n4_:=blk_below BK4.out hb_;have HO:=As.mk ho_;clear HB hb_ ho_ q4_0 q4_1 q4_2 q4_3 q4_4 q4_5 q4f_0 q4f_1 q4f_2 q4f_3 q4f_4 q4f_5;have HB:=n0_;have q4_0 : wc.cell? ⟨g4,0,none⟩ = some (.int .i64 0):=(bC n4_ 0).trans rfl;have q4f_0 : wc.frozen? ⟨g4,0,none⟩ = false:=bF n4_ 0;have q4_1 : wc.cell? ⟨g4,1,none⟩ = some (.string ⟨#[]⟩):=(bC n4_ 1).trans rfl;have q4f_1 : wc.frozen? ⟨g4,1,none⟩ = false:=bF n4_ 1;have q4_2 : wc.cell? ⟨g4,2,none⟩ = some (.string ⟨#[]⟩):=(bC n4_ 2).trans rfl;have q4f_2 : wc.frozen? ⟨g4,2,none⟩ = false:=bF n4_ 2;have q4_3 : wc.cell? ⟨g4,3,none⟩ = some (.slice none 0 0):=(bC n4_ 3).trans rfl;have q4f_3 : wc.frozen? ⟨g4,3,none⟩ = false:=bF n4_ 3;have q4_4 : wc.cell? ⟨g4,4,none⟩ = some (.string ⟨#[]⟩):=(bC n4_ 4).trans rfl;have q4f_4 : wc.frozen? ⟨g4,4,none⟩ = false:=bF n4_ 4;have q4_5 : wc.cell? ⟨g4,5,none⟩ = some (.string ⟨#[]⟩):=(bC n4_ 5).trans rfl;have q4f_5 : wc.frozen? ⟨g4,5,none⟩ = false:=bF n4_ 5;clear n0_ n4_))
 (try simp only [Exit.inBlock,Exit.then])
 refine bodyPost_ret (v:=.tuple #[.agg #[.int .i64 d.f0,.string d.f1,.string d.f2,.slice A3 d.f3.length c3,.string d.f4,.string d.f5],.bool true]) ?_ rfl ?_
 ·rw [results_cell_tmp rfl]
  go_simp
 refine ⟨A3,c3,rfl,(Kd.R_reads' HO.out).2.1,?_,(by repeat (first | (with_reducible first | exact HB.out) | refine bT ?_ (Nat.le_of_eq HG4.out.symm)))⟩
 exact Kd.V_mono (Kd.N_V (Kd.R_N (d:=Kd.string) (e:=9) (base:=W2.heap.size) (ok:=fun k=>W2.heap.size ≤ k) (v:=.slice A3 d.f3.length c3) (xs:=d.f3) (by repeat (first | (with_reducible exact HO.out) | refine Kd.R_far (d:=Kd.string) (ok:=fun k=>W2.heap.size ≤ k) ?_ (fun k hk=>by have h1_ : W2.heap.size ≤ k:=hk;have h2_:=HG.out.1;show k ≠ g4;omega) _)))) (fun k hk=>Nat.le_trans HW2.out hk)
theorem get_noV (w : World) (p : Option Addr) (M : DataW S34) (ky : ByteArray) (h : SnR w (.pointer p) M) (hs : ky.size ≤ maxLen) (hh : Maps.has M (KL ky) = false) :
  Calls Tryz.prog 32 #[.pointer p,.string ky] w fun e w'=>∃ A3 c3,e = .returned (.tuple #[.agg #[.int .i64 0,.string ⟨#[]⟩,.string ⟨#[]⟩,.slice A3 0 c3,.string ⟨#[]⟩,.string ⟨#[]⟩],.bool false]) ∧ Below w.heap.size w w':=by
 refine (get_no w p M ky h hs hh).mono ?_
 rintro e w' ⟨A3,c3,rfl,_,hb⟩
 exact ⟨A3,c3,rfl,hb⟩
theorem get_nilV (w : World) (ky : ByteArray) (hs : ky.size ≤ maxLen) :
  Calls Tryz.prog 32 #[.pointer none,.string ky] w fun e w'=>∃ A3 c3,e = .returned (.tuple #[.agg #[.int .i64 0,.string ⟨#[]⟩,.string ⟨#[]⟩,.slice A3 0 c3,.string ⟨#[]⟩,.string ⟨#[]⟩],.bool false]) ∧ Below w.heap.size w w':=by
 have hu34:=Tryz.underlying34
 have HKS:=As.mk hs
 clear hs
 go_enter Tryz.func32,Tryz.ntmps32
 go_upto_region 1 with (fail)
 have bk4:=blk_new w (Obj.cells #[.int .i64 0,.string ⟨#[]⟩,.string ⟨#[]⟩,.slice none 0 0,.string ⟨#[]⟩,.string ⟨#[]⟩] 34)
 have hb_:=bA (Below.refl w.heap.size w) (Obj.cells #[.int .i64 0,.string ⟨#[]⟩,.string ⟨#[]⟩,.slice none 0 0,.string ⟨#[]⟩,.string ⟨#[]⟩] 34)
 generalize w.alloc (Obj.cells #[.int .i64 0,.string ⟨#[]⟩,.string ⟨#[]⟩,.slice none 0 0,.string ⟨#[]⟩,.string ⟨#[]⟩] 34) = W1 at bk4 hb_ ⊢
 obtain ⟨g4,hg4⟩ : ∃ g4,g4 = w.heap.size:=⟨_,rfl⟩
 rw [← hg4] at bk4 ⊢
 have HG4:=As.mk hg4
 have HB1:=As.mk hb_
 have BK1:=As.mk bk4
 clear hb_ bk4 hg4
 go_upto_region 2 with (first | (go_at_call 65;(with_reducible refine (all_nil _).mono ?_);rintro e wz ⟨rfl,hw_⟩;rw [hw_]) | (at_lookup;refine look_nil_event rfl _ _ rfl ky rfl rfl HKS.out ?_))
 have bk6:=blk_new W1 (Obj.cells #[.int .i64 0,.string ⟨#[]⟩,.string ⟨#[]⟩,.slice none 0 0,.string ⟨#[]⟩,.string ⟨#[]⟩] 34)
 have hb_:=bA (Below.refl W1.heap.size W1) (Obj.cells #[.int .i64 0,.string ⟨#[]⟩,.string ⟨#[]⟩,.slice none 0 0,.string ⟨#[]⟩,.string ⟨#[]⟩] 34)
 generalize W1.alloc (Obj.cells #[.int .i64 0,.string ⟨#[]⟩,.string ⟨#[]⟩,.slice none 0 0,.string ⟨#[]⟩,.string ⟨#[]⟩] 34) = W2 at bk6 hb_ ⊢
 obtain ⟨g6,hg6⟩ : ∃ g6,g6 = W1.heap.size:=⟨_,rfl⟩
 rw [← hg6] at bk6 ⊢
 have BK4:=As.mk (blk_below BK1.out hb_)
 have HG:=As.mk (show g4 < W2.heap.size ∧ g4 ≠ g6 from ⟨blk_lt BK4.out,by have h1_:=blk_lt BK1.out;omega⟩)
 have HB:=As.mk (bS HB1.out hb_)
 have q6_0 : W2.cell? ⟨g6,0,none⟩ = some (.int .i64 0):=(bC bk6 0).trans rfl;have q6f_0 : W2.frozen? ⟨g6,0,none⟩ = false:=bF bk6 0;have q6_1 : W2.cell? ⟨g6,1,none⟩ = some (.string ⟨#[]⟩):=(bC bk6 1).trans rfl;have q6f_1 : W2.frozen? ⟨g6,1,none⟩ = false:=bF bk6 1;have q6_2 : W2.cell? ⟨g6,2,none⟩ = some (.string ⟨#[]⟩):=(bC bk6 2).trans rfl;have q6f_2 : W2.frozen? ⟨g6,2,none⟩ = false:=bF bk6 2;have q6_3 : W2.cell? ⟨g6,3,none⟩ = some (.slice none 0 0):=(bC bk6 3).trans rfl;have q6f_3 : W2.frozen? ⟨g6,3,none⟩ = false:=bF bk6 3;have q6_4 : W2.cell? ⟨g6,4,none⟩ = some (.string ⟨#[]⟩):=(bC bk6 4).trans rfl;have q6f_4 : W2.frozen? ⟨g6,4,none⟩ = false:=bF bk6 4;have q6_5 : W2.cell? ⟨g6,5,none⟩ = some (.string ⟨#[]⟩):=(bC bk6 5).trans rfl;have q6f_5 : W2.frozen? ⟨g6,5,none⟩ = false:=bF bk6 5
 have q4_0 : W2.cell? ⟨g4,0,none⟩ = some (.int .i64 0):=(bC BK4.out 0).trans rfl;have q4f_0 : W2.frozen? ⟨g4,0,none⟩ = false:=bF BK4.out 0;have q4_1 : W2.cell? ⟨g4,1,none⟩ = some (.string ⟨#[]⟩):=(bC BK4.out 1).trans rfl;have q4f_1 : W2.frozen? ⟨g4,1,none⟩ = false:=bF BK4.out 1;have q4_2 : W2.cell? ⟨g4,2,none⟩ = some (.string ⟨#[]⟩):=(bC BK4.out 2).trans rfl;have q4f_2 : W2.frozen? ⟨g4,2,none⟩ = false:=bF BK4.out 2;have q4_3 : W2.cell? ⟨g4,3,none⟩ = some (.slice none 0 0):=(bC BK4.out 3).trans rfl;have q4f_3 : W2.frozen? ⟨g4,3,none⟩ = false:=bF BK4.out 3;have q4_4 : W2.cell? ⟨g4,4,none⟩ = some (.string ⟨#[]⟩):=(bC BK4.out 4).trans rfl;have q4f_4 : W2.frozen? ⟨g4,4,none⟩ = false:=bF BK4.out 4;have q4_5 : W2.cell? ⟨g4,5,none⟩ = some (.string ⟨#[]⟩):=(bC BK4.out 5).trans rfl;have q4f_5 : W2.frozen? ⟨g4,5,none⟩ = false:=bF BK4.out 5
 clear hb_ bk6 hg6
 go_wp2_with (first | (go_at_call 61;(with_reducible refine (clone_Z _).mono ?_);rintro e wc ⟨v3,rfl,ho_,hb_⟩;obtain ⟨A3,c3,rfl⟩:=Kd.R_slice ho_;rw [List.length_nil] at ho_;rw [List.length_nil];have n0_:=As.mk (bS HB.out hb_);have n4_:=blk_below BK4.out hb_;have HO:=As.mk ho_;clear HB hb_ ho_ q4_0 q4_1 q4_2 q4_3 q4_4 q4_5 q4f_0 q4f_1 q4f_2 q4f_3 q4f_4 q4f_5;have HB:=n0_;have q4_0 : wc.cell? ⟨g4,0,none⟩ = some (.int .i64 0):=(bC n4_ 0).trans rfl;have q4f_0 : wc.frozen? ⟨g4,0,none⟩ = false:=bF n4_ 0;have q4_1 : wc.cell? ⟨g4,1,none⟩ = some (.string ⟨#[]⟩):=(bC n4_ 1).trans rfl;have q4f_1 : wc.frozen? ⟨g4,1,none⟩ = false:=bF n4_ 1;have q4_2 : wc.cell? ⟨g4,2,none⟩ = some (.string ⟨#[]⟩):=(bC n4_ 2).trans rfl;have q4f_2 : wc.frozen? ⟨g4,2,none⟩ = false:=bF n4_ 2;have q4_3 : wc.cell? ⟨g4,3,none⟩ = some (.slice none 0 0):=(bC n4_ 3).trans rfl;have q4f_3 : wc.frozen? ⟨g4,3,none⟩ = false:=bF n4_ 3;have q4_4 : wc.cell? ⟨g4,4,none⟩ = some (.string ⟨#[]⟩):=(bC n4_ 4).trans rfl;have q4f_4 : wc.frozen? ⟨g4,4,none⟩ = false:=bF n4_ 4;have q4_5 : wc.cell? ⟨g4,5,none⟩ = some (.string ⟨#[]⟩):=(bC n4_ 5).trans rfl;have q4f_5 : wc.frozen? ⟨g4,5,none⟩ = false:=bF n4_ 5;clear n0_ n4_))
 (try simp only [Exit.inBlock,Exit.then])
 refine bodyPost_ret (v:=.tuple #[.agg #[.int .i64 0,.string ⟨#[]⟩,.string ⟨#[]⟩,.slice A3 0 c3,.string ⟨#[]⟩,.string ⟨#[]⟩],.bool false]) ?_ rfl ?_
 ·rw [results_cell_tmp rfl]
  go_simp
 exact ⟨A3,c3,rfl,(by repeat (first | (with_reducible first | exact HB.out) | refine bT ?_ (Nat.le_of_eq HG4.out.symm)))⟩
theorem vals_of_has {w : World} {b : Nat} {M : DataW S34} (h : MapD w b M) {kl : Lit} (hh : Maps.has M kl = true) {d : S34} (hd : M.atKey kl .nil = .held d) : d ∈ valsM M:=by
 obtain ⟨ms,rfl,_,_⟩:=h.strings
 rw [atKey_find] at hd
 cases hf : ms.find? (fun p=>p.1.sameKey kl) with
 | none=>rw [hf] at hd;cases hd
 | some p =>
  rw [hf] at hd
  have hd : p.2 = .held d:=hd
  exact List.mem_map.2 ⟨p,List.mem_of_find?_eq_some hf,by rw [hd];rfl⟩
def getM (M : DataW S34) (ky : ByteArray) : List S34:=if Maps.has M (KL ky) = true then [heldOf (M.atKey (KL ky) .nil)] else []
theorem dget_calls (w : World) (p : Option Addr) (M : DataW S34) (ky : ByteArray) (h : Sn w (.pointer p) M) (hs : ky.size ≤ maxLen) (hlv : ∀ d ∈ valsM M,d.f3.length ≤ 1000000) :
  Calls Tryz.prog 92 #[.pointer p,.string ky] w fun e w'=>∃ v,e = .returned v ∧ Kd.N k34 34 w' w.heap.size (fun k=>w.heap.size ≤ k) v (getM M ky) ∧ Below w.heap.size w w':=by
 have hu34:=Tryz.underlying34
 rcases h with ⟨he,rfl⟩ | h
 ·injection he with he
  subst he
  rw [show getM (.map []) ky = [] from rfl]
  go_enter Tryz.func92,Tryz.ntmps92
  go_wp2_with (first | (go_at_call 32;(with_reducible refine (get_nilV _ ky hs).mono ?_);rintro e wg ⟨A3,c3,rfl,hb_⟩;have HB:=As.mk hb_;clear hb_))
  go_ret
  exact ⟨_,rfl,Kd.N_nil _ _ _ _ _,(by repeat (first | (with_reducible first | exact HB.out | apply bA | apply bN | apply bD) | exact HB.out))⟩
 ·obtain ⟨gs,bm,he_,hcs,hms⟩:=id h
  rcases Bool.eq_false_or_eq_true (Maps.has M (KL ky)) with hh | hh
  ·obtain ⟨d,hd⟩:=hms.elems_ _ hh
   have hg : getM M ky = [d]:=by unfold getM;rw [if_pos hh,hd];rfl
   have hv : d.f3.length ≤ 1000000:=hlv d (vals_of_has hms hh (hd .nil))
   rw [hg]
   clear he_ hcs hms hg hlv
   go_enter Tryz.func92,Tryz.ntmps92
   go_wp2_with (first | (go_at_call 32;(with_reducible refine (get_yesV _ p M ky h hs d hh hd hv).mono ?_);rintro e wg ⟨A3,c3,rfl,hl3,hv3,hb_⟩;have HB:=As.mk hb_;have HL3:=As.mk hl3;have HV3:=As.mk hv3;clear hb_ hl3 hv3) | ((with_reducible refine gate_dst (N:=15) rfl ?_);refine Kd.N_lit k34 (w0:=w) w.heap.size 34 ?hg (N':=15) ?hd (xs:=[d]) (inner:=[.int .i64 d.f0,.string d.f1,.string d.f2,.slice A3 d.f3.length c3,.string d.f4,.string d.f5]) (ok:=fun k=>w.heap.size ≤ k) (okp:=fun k=>w.heap.size ≤ k) ?hr ?hp (fun _ hk=>hk) ((by repeat (first | (with_reducible first | exact HB.out | apply bA | apply bN | apply bD) | exact HB.out)) : Below w.heap.size w _).size (by repeat (first | (with_reducible first | exact HB.out | apply bA | apply bN | apply bD) | exact HB.out)) ((by repeat (first | (with_reducible first | exact HB.out | apply bA | apply bN | apply bD) | exact HB.out)) : Below w.heap.size w _).size (by simp) ?_;(case hd=>rfl);(case hg=>rfl);(case hr=>first | (go_simp;done) | (go_simp;rfl));(case hp=>exact Reps.c6 (show Kd.FK k34 _ (fun k=>w.heap.size ≤ k) d [.int .i64 d.f0,.string d.f1,.string d.f2,.slice A3 d.f3.length c3,.string d.f4,.string d.f5] from fun W' hW=>k34_mk W' d HL3.out (Kd.V_reads' (Kd.V_step (Kd.V_alloc HV3.out _) hW)).2.2) (Reps.none _ _));intro v15 w15 ho hb_ _ _;have HO:=As.mk ho;have n0_:=As.mk hb_;clear HB hb_ ho;have HB:=n0_;clear n0_))
   go_ret
   exact ⟨_,rfl,HO.out,(by repeat (first | (with_reducible first | exact HB.out | apply bA | apply bN | apply bD) | exact HB.out))⟩
  ·have hg : getM M ky = []:=by unfold getM;rw [if_neg (by rw [hh];decide)]
   rw [hg]
   clear he_ hcs hms hg hlv
   go_enter Tryz.func92,Tryz.ntmps92
   go_wp2_with (first | (go_at_call 32;(with_reducible refine (get_noV _ p M ky h hs hh).mono ?_);rintro e wg ⟨A3,c3,rfl,hb_⟩;have HB:=As.mk hb_;clear hb_))
   go_ret
   exact ⟨_,rfl,Kd.N_nil _ _ _ _ _,(by repeat (first | (with_reducible first | exact HB.out | apply bA | apply bN | apply bD) | exact HB.out))⟩
end Go.Proofs.YtmlebgikdegjjaaGreatDoor.Hd
