/- The reference's definition, read. -/
import Derived.Test.YtmlebgikdegjjaaGreatDoorQc
set_option maxHeartbeats 16000000
set_option maxRecDepth 100000
namespace Go.Proofs.YtmlebgikdegjjaaGreatDoor.Hd
open Go.RowKit Go.Proofs.YtmlebgikdegjjaaGreatDoorW.PrintWords Go.Proofs.YtmlebgikdegjjaaGreatDoorW.PrintLast Go.Proofs.YtmlebgikdegjjaaGreatDoorW.PrintMore Go.Proofs.YtmlebgikdegjjaaGreatDoor.PAll
attribute [local go_sem] max2_int min2_int max_two min_two max_three min_three max_four min_four
set_option linter.unusedVariables false
set_option linter.unusedSimpArgs false
def refread.T11 : Bool × List (List Nat × List Nat):=(true,[([],[]),([],[]),([1],[1]),([2],[2]),([3],[3]),([0,0],[0]),([4,5,0,1,2,3,4,5],[4])])
def refread.B11 : List Nat:=[0,0,2,6,14,1,63]
theorem refread.tab11 : rtab .any (opsOf Tryz.f101 11) = refread.T11:=by kernel_rfl
theorem refread.bits11 : waitsOk refread.T11.2 refread.B11 = true:=by kernel_rfl
theorem refread_calls (g : Nat) (bs : List Int) (e : Int) (hb : BytesOk bs) (hm : bs.length ≤ 100000) (w0 w : World) (hI : RfR w0 w g bs e) (hB : Below w0.heap.size w0 w) :
  Calls Tryz.prog 101 #[.pointer (some ⟨g,0,none⟩)] w fun r w'=>∃ vv,r = .returned (.tuple #[.agg #[.int .i64 (readR bs e).1.kd,.string (readR bs e).1.c,.string (readR bs e).1.s,vv,.string (readR bs e).1.l,.string (readR bs e).1.t],.int .i64 (readR bs e).2.1]) ∧ Kd.R Kd.string 9 w' w0.heap.size (fun k=>w.heap.size ≤ k) vv (readR bs e).1.v ∧ RfR w0 w' g (readR bs e).2.2.1 (readR bs e).2.2.2 ∧ Below w0.heap.size w0 w' ∧ KeepBut w w' g none:=by
 have hu31:=Tryz.underlying34
 have HI:=As.mk hI
 have HB:=As.mk hB
 have HK:=As.mk (KeepBut.refl w g none)
 have HM:=As.mk hm
 have HGL:=As.mk hI.lt
 have HBO0:=As.mk hb
 clear hI hB
 obtain ⟨kd,b1,e1,hq0_⟩ : ∃ kd b1 e1,numR bs e = (kd,b1,e1):=⟨_,_,_,rfl⟩
 have hq:=As.mk hq0_
 obtain ⟨f1,f2,f3,f4,f5,f6,f7⟩:=numR_facts hb hq0_
 have HBO1:=As.mk f1
 have HL1:=As.mk f5
 clear hb hm hq0_ f1 f2 f3 f4 f5 f6 f7
 go_enter Tryz.func101,Tryz.ntmps101
 go_upto_region 1 with (fail)
 have x0_:=As.mk (show (w.alloc (Obj.cells #[.int .i64 0,.string ⟨#[]⟩,.string ⟨#[]⟩,.slice none 0 0,.string ⟨#[]⟩,.string ⟨#[]⟩] 34)).heap[w.heap.size]? = some (Obj.cells #[.int .i64 0,.string ⟨#[]⟩,.string ⟨#[]⟩,.slice none 0 0,.string ⟨#[]⟩,.string ⟨#[]⟩] 34) from blk_new w _)
 have x1_:=As.mk (show RfR w0 (w.alloc (Obj.cells #[.int .i64 0,.string ⟨#[]⟩,.string ⟨#[]⟩,.slice none 0 0,.string ⟨#[]⟩,.string ⟨#[]⟩] 34)) g bs e from RfR.alloc HI.out _)
 have x2_:=As.mk (show Below w0.heap.size w0 (w.alloc (Obj.cells #[.int .i64 0,.string ⟨#[]⟩,.string ⟨#[]⟩,.slice none 0 0,.string ⟨#[]⟩,.string ⟨#[]⟩] 34)) from HB.out.alloc HB.out.size _)
 have x3_:=As.mk (show KeepBut w (w.alloc (Obj.cells #[.int .i64 0,.string ⟨#[]⟩,.string ⟨#[]⟩,.slice none 0 0,.string ⟨#[]⟩,.string ⟨#[]⟩] 34)) g none from keep_alloc HK.out _)
 have x4_:=As.mk (show w.heap.size < (w.alloc (Obj.cells #[.int .i64 0,.string ⟨#[]⟩,.string ⟨#[]⟩,.slice none 0 0,.string ⟨#[]⟩,.string ⟨#[]⟩] 34)).heap.size from blk_lt (blk_new w _))
 have x5_:=As.mk HB.out.size
 clear HI HB HK
 generalize (w.alloc (Obj.cells #[.int .i64 0,.string ⟨#[]⟩,.string ⟨#[]⟩,.slice none 0 0,.string ⟨#[]⟩,.string ⟨#[]⟩] 34)) = wz at x0_ x1_ x2_ x3_ x4_ ⊢
 generalize hgz : w.heap.size = gz at x0_ x4_ x5_ ⊢
 have HGZ:=As.mk hgz
 clear hgz
 have BZ:=x0_
 have HI:=x1_
 have HB:=x2_
 have HK:=x3_
 have HZL:=x4_
 have HZG:=x5_
 clear x0_ x1_ x2_ x3_ x4_ x5_
 have HNZ:=As.mk (show g ≠ gz by have:=HGL.out;have:=HGZ.out;omega)
 go_upto_region 2 with (first | (go_at_call 100;(with_reducible refine (num_refs g bs e HBO0.out w0 _ ?sideI ?sideB).mono ?_);(case sideI=>exact HI.out);(case sideB=>exact HB.out);rintro er w1 ⟨rfl,hI1,hB1,hK1⟩;rw [hq.out] at hI1;simp only [] at hI1;rw [hq.out];simp only [];have n4_:=As.mk (show gz < w1.heap.size from Nat.lt_of_lt_of_le HZL.out hK1.1);clear HZL;have HZL:=n4_;clear n4_;have n0_:=As.mk hI1;have n1_:=As.mk hB1;have n2_:=As.mk (show KeepBut w w1 g none from KeepBut.trans HK.out hK1 (.inl rfl));have n3_:=As.mk (hK1.blk BZ.out HNZ.out.symm (by simp));clear HI HB HK BZ hI1 hB1 hK1;have HI:=n0_;have HB:=n1_;have HK:=n2_;have BZ:=n3_;clear n0_ n1_ n2_ n3_))
 have x0_:=As.mk (show (w1.alloc (Obj.cells #[.int .i64 kd,.string ⟨#[]⟩,.string ⟨#[]⟩,.slice none 0 0,.string ⟨#[]⟩,.string ⟨#[]⟩] 34)).heap[w1.heap.size]? = some (Obj.cells #[.int .i64 kd,.string ⟨#[]⟩,.string ⟨#[]⟩,.slice none 0 0,.string ⟨#[]⟩,.string ⟨#[]⟩] 34) from blk_new w1 _)
 have x1_:=As.mk (show RfR w0 (w1.alloc (Obj.cells #[.int .i64 kd,.string ⟨#[]⟩,.string ⟨#[]⟩,.slice none 0 0,.string ⟨#[]⟩,.string ⟨#[]⟩] 34)) g b1 e1 from RfR.alloc HI.out _)
 have x2_:=As.mk (show Below w0.heap.size w0 (w1.alloc (Obj.cells #[.int .i64 kd,.string ⟨#[]⟩,.string ⟨#[]⟩,.slice none 0 0,.string ⟨#[]⟩,.string ⟨#[]⟩] 34)) from HB.out.alloc HB.out.size _)
 have x3_:=As.mk (show KeepBut w (w1.alloc (Obj.cells #[.int .i64 kd,.string ⟨#[]⟩,.string ⟨#[]⟩,.slice none 0 0,.string ⟨#[]⟩,.string ⟨#[]⟩] 34)) g none from keep_alloc HK.out _)
 have x4_:=As.mk (show w1.heap.size < (w1.alloc (Obj.cells #[.int .i64 kd,.string ⟨#[]⟩,.string ⟨#[]⟩,.slice none 0 0,.string ⟨#[]⟩,.string ⟨#[]⟩] 34)).heap.size from blk_lt (blk_new w1 _))
 have x5_:=As.mk (show (w1.alloc (Obj.cells #[.int .i64 kd,.string ⟨#[]⟩,.string ⟨#[]⟩,.slice none 0 0,.string ⟨#[]⟩,.string ⟨#[]⟩] 34)).heap[gz]? = some (Obj.cells #[.int .i64 0,.string ⟨#[]⟩,.string ⟨#[]⟩,.slice none 0 0,.string ⟨#[]⟩,.string ⟨#[]⟩] 34) from kA BZ.out _)
 clear HI HB HK BZ
 generalize (w1.alloc (Obj.cells #[.int .i64 kd,.string ⟨#[]⟩,.string ⟨#[]⟩,.slice none 0 0,.string ⟨#[]⟩,.string ⟨#[]⟩] 34)) = wd at x0_ x1_ x2_ x3_ x4_ x5_ ⊢
 generalize hgd : w1.heap.size = gd at x0_ x4_ HZL ⊢
 clear hgd
 have BD:=x0_
 have HI:=x1_
 have HB:=x2_
 have HK:=x3_
 have HDL:=x4_
 have BZ:=x5_
 clear x0_ x1_ x2_ x3_ x4_ x5_
 have HND:=As.mk (show g ≠ gd by have:=HGL.out;have:=HGZ.out;have:=HZL.out;omega)
 have HZD:=As.mk (show gz ≠ gd by have:=HZL.out;omega)
 have HDG:=As.mk (show w0.heap.size ≤ gd by have:=HZL.out;have:=HZG.out;omega)
 have HDW:=As.mk (show w.heap.size ≤ gd by have:=HZL.out;have:=HGZ.out;omega)
 have HZW:=As.mk (show w.heap.size ≤ gz by have:=HGZ.out;omega)
 have HZ0:=As.mk (show w0.heap.size ≤ gz by have:=HZG.out;omega)
 have FD:=As.mk (show True from trivial)
 have hczd_0 : wd.cell? ⟨gd,0,none⟩ = some (.int .i64 kd):=(bC BD.out 0).trans rfl;have hczd_1 : wd.cell? ⟨gd,1,none⟩ = some (.string ⟨#[]⟩):=(bC BD.out 1).trans rfl;have hczd_2 : wd.cell? ⟨gd,2,none⟩ = some (.string ⟨#[]⟩):=(bC BD.out 2).trans rfl;have hczd_3 : wd.cell? ⟨gd,3,none⟩ = some (.slice none 0 0):=(bC BD.out 3).trans rfl;have hczd_4 : wd.cell? ⟨gd,4,none⟩ = some (.string ⟨#[]⟩):=(bC BD.out 4).trans rfl;have hczd_5 : wd.cell? ⟨gd,5,none⟩ = some (.string ⟨#[]⟩):=(bC BD.out 5).trans rfl;have hfzd_0:=bF BD.out 0;have hfzd_1:=bF BD.out 1;have hfzd_2:=bF BD.out 2;have hfzd_3:=bF BD.out 3;have hfzd_4:=bF BD.out 4;have hfzd_5:=bF BD.out 5
 by_cases k1 : kd = 1
 ·have k1a : (kd == 1) = true:=beq_iff_eq.mpr k1
  obtain ⟨c,b2,e2,h1_⟩ : ∃ c b2 e2,textR b1 e1 = (c,b2,e2):=⟨_,_,_,rfl⟩
  have q1:=As.mk h1_
  have o1_:=textR_ok (e:=e1) HBO1.out
  have z1_:=textR_size (e:=e1) HBO1.out
  rw [h1_] at o1_ z1_
  have HBO2:=As.mk o1_.1
  obtain ⟨s,b3,e3,h2_⟩ : ∃ s b3 e3,textR b2 e2 = (s,b3,e3):=⟨_,_,_,rfl⟩
  have q2:=As.mk h2_
  have o2_:=textR_ok (e:=e2) HBO2.out
  have z2_:=textR_size (e:=e2) HBO2.out
  rw [h2_] at o2_ z2_
  have HBO3:=As.mk o2_.1
  obtain ⟨v,b4,e4,h3_⟩ : ∃ v b4 e4,textsR b3 e3 = (v,b4,e4):=⟨_,_,_,rfl⟩
  have q3:=As.mk h3_
  have o3_:=textsR_facts (e:=e3) HBO3.out
  rw [h3_] at o3_
  have HSZ:=As.mk (show c.size ≤ 100000 ∧ s.size ≤ 100000 ∧ v.length ≤ 1000000 ∧ (⟨#[]⟩ : ByteArray).size ≤ 100000 ∧ ∀ x ∈ v,x.size ≤ 100000 from by
   have hm:=HM.out
   have hl:=HL1.out
   have a1:=o1_.2
   have a2:=o2_.2
   simp only [] at z1_ z2_ a1 a2
   exact ⟨by omega,by omega,o3_.2.2.1,Nat.zero_le _,fun x hx=>by have:=o3_.2.2.2 x hx;omega⟩)
  clear o1_ o2_ o3_ z1_ z2_ h1_ h2_ h3_
  have QR:=As.mk (readR_class hq.out k1 q1.out q2.out q3.out)
  subst k1
  go_upto_region 4 with (first | (go_at_call 136;(with_reducible refine (text_refs g b1 e1 HBO1.out w0 _ ?sideI ?sideB).mono ?_);(case sideI=>exact HI.out);(case sideB=>exact HB.out);rintro er w2 ⟨rfl,hI1,hB1,hK1⟩;rw [q1.out] at hI1;simp only [] at hI1;rw [q1.out];simp only [];have n0_:=As.mk hI1;have n1_:=As.mk hB1;have n2_:=As.mk (show KeepBut w w2 g none from KeepBut.trans HK.out hK1 (.inl rfl));have n3_:=As.mk (hK1.blk BZ.out HNZ.out.symm (by simp));have n5_:=As.mk (hK1.blk BD.out HND.out.symm (by simp));have n6_:=As.mk (show gd < w2.heap.size from Nat.lt_of_lt_of_le HDL.out hK1.1);clear BD HDL;have BD:=n5_;have HDL:=n6_;clear n5_ n6_;clear HI HB HK BZ hI1 hB1 hK1;have HI:=n0_;have HB:=n1_;have HK:=n2_;have BZ:=n3_;clear n0_ n1_ n2_ n3_;clear hczd_0 hfzd_0 hczd_1 hfzd_1 hczd_2 hfzd_2 hczd_3 hfzd_3 hczd_4 hfzd_4 hczd_5 hfzd_5;have hczd_0 : w2.cell? ⟨gd,0,none⟩ = some (.int .i64 1):=(bC BD.out 0).trans rfl;have hczd_1 : w2.cell? ⟨gd,1,none⟩ = some (.string ⟨#[]⟩):=(bC BD.out 1).trans rfl;have hczd_2 : w2.cell? ⟨gd,2,none⟩ = some (.string ⟨#[]⟩):=(bC BD.out 2).trans rfl;have hczd_3 : w2.cell? ⟨gd,3,none⟩ = some (.slice none 0 0):=(bC BD.out 3).trans rfl;have hczd_4 : w2.cell? ⟨gd,4,none⟩ = some (.string ⟨#[]⟩):=(bC BD.out 4).trans rfl;have hczd_5 : w2.cell? ⟨gd,5,none⟩ = some (.string ⟨#[]⟩):=(bC BD.out 5).trans rfl;have hfzd_0:=bF BD.out 0;have hfzd_1:=bF BD.out 1;have hfzd_2:=bF BD.out 2;have hfzd_3:=bF BD.out 3;have hfzd_4:=bF BD.out 4;have hfzd_5:=bF BD.out 5))
  have x0_:=As.mk (show (w2.setCell ⟨gd,1,none⟩ (.string c)).heap[gd]? = some (Obj.cells #[.int .i64 1,.string c,.string ⟨#[]⟩,.slice none 0 0,.string ⟨#[]⟩,.string ⟨#[]⟩] 34 (0,0)) by simpa using (blk_set BD.out 1 (.string c)))
  have x1_:=As.mk (RfR.far (p:=⟨gd,1,none⟩) HI.out HND.out (.string c))
  have x2_:=As.mk (show Below w0.heap.size w0 (w2.setCell ⟨gd,1,none⟩ (.string c)) from (bT HB.out HDG.out))
  have x3_:=As.mk (show KeepBut w (w2.setCell ⟨gd,1,none⟩ (.string c)) g none from (keep_far (p:=⟨gd,1,none⟩) HK.out HDW.out (.string c)))
  have x4_:=As.mk (show (w2.setCell ⟨gd,1,none⟩ (.string c)).heap[gz]? = some (Obj.cells #[.int .i64 0,.string ⟨#[]⟩,.string ⟨#[]⟩,.slice none 0 0,.string ⟨#[]⟩,.string ⟨#[]⟩] 34) from (blk_far (p:=⟨gd,1,none⟩) BZ.out HZD.out (.string c)))
  clear HI HB HK BD BZ
  generalize (w2.setCell ⟨gd,1,none⟩ (.string c)) = wd at x0_ x1_ x2_ x3_ x4_ ⊢
  have BD:=x0_
  clear HDL
  have HDL:=As.mk (blk_lt BD.out)
  have HI:=x1_
  have HB:=x2_
  have HK:=x3_
  have BZ:=x4_
  clear x0_ x1_ x2_ x3_ x4_
  have hczd_0 : wd.cell? ⟨gd,0,none⟩ = some (.int .i64 1):=(bC BD.out 0).trans rfl;have hczd_1 : wd.cell? ⟨gd,1,none⟩ = some (.string c):=(bC BD.out 1).trans rfl;have hczd_2 : wd.cell? ⟨gd,2,none⟩ = some (.string ⟨#[]⟩):=(bC BD.out 2).trans rfl;have hczd_3 : wd.cell? ⟨gd,3,none⟩ = some (.slice none 0 0):=(bC BD.out 3).trans rfl;have hczd_4 : wd.cell? ⟨gd,4,none⟩ = some (.string ⟨#[]⟩):=(bC BD.out 4).trans rfl;have hczd_5 : wd.cell? ⟨gd,5,none⟩ = some (.string ⟨#[]⟩):=(bC BD.out 5).trans rfl;have hfzd_0:=bF BD.out 0;have hfzd_1:=bF BD.out 1;have hfzd_2:=bF BD.out 2;have hfzd_3:=bF BD.out 3;have hfzd_4:=bF BD.out 4;have hfzd_5:=bF BD.out 5
  go_upto_region 5 with (first | (go_at_call 136;(with_reducible refine (text_refs g b2 e2 HBO2.out w0 _ ?sideI ?sideB).mono ?_);(case sideI=>exact HI.out);(case sideB=>exact HB.out);rintro er w3 ⟨rfl,hI1,hB1,hK1⟩;rw [q2.out] at hI1;simp only [] at hI1;rw [q2.out];simp only [];have n0_:=As.mk hI1;have n1_:=As.mk hB1;have n2_:=As.mk (show KeepBut w w3 g none from KeepBut.trans HK.out hK1 (.inl rfl));have n3_:=As.mk (hK1.blk BZ.out HNZ.out.symm (by simp));have n5_:=As.mk (hK1.blk BD.out HND.out.symm (by simp));have n6_:=As.mk (show gd < w3.heap.size from Nat.lt_of_lt_of_le HDL.out hK1.1);clear BD HDL;have BD:=n5_;have HDL:=n6_;clear n5_ n6_;clear HI HB HK BZ hI1 hB1 hK1;have HI:=n0_;have HB:=n1_;have HK:=n2_;have BZ:=n3_;clear n0_ n1_ n2_ n3_;clear hczd_0 hfzd_0 hczd_1 hfzd_1 hczd_2 hfzd_2 hczd_3 hfzd_3 hczd_4 hfzd_4 hczd_5 hfzd_5;have hczd_0 : w3.cell? ⟨gd,0,none⟩ = some (.int .i64 1):=(bC BD.out 0).trans rfl;have hczd_1 : w3.cell? ⟨gd,1,none⟩ = some (.string c):=(bC BD.out 1).trans rfl;have hczd_2 : w3.cell? ⟨gd,2,none⟩ = some (.string ⟨#[]⟩):=(bC BD.out 2).trans rfl;have hczd_3 : w3.cell? ⟨gd,3,none⟩ = some (.slice none 0 0):=(bC BD.out 3).trans rfl;have hczd_4 : w3.cell? ⟨gd,4,none⟩ = some (.string ⟨#[]⟩):=(bC BD.out 4).trans rfl;have hczd_5 : w3.cell? ⟨gd,5,none⟩ = some (.string ⟨#[]⟩):=(bC BD.out 5).trans rfl;have hfzd_0:=bF BD.out 0;have hfzd_1:=bF BD.out 1;have hfzd_2:=bF BD.out 2;have hfzd_3:=bF BD.out 3;have hfzd_4:=bF BD.out 4;have hfzd_5:=bF BD.out 5))
  have x0_:=As.mk (show (w3.setCell ⟨gd,2,none⟩ (.string s)).heap[gd]? = some (Obj.cells #[.int .i64 1,.string c,.string s,.slice none 0 0,.string ⟨#[]⟩,.string ⟨#[]⟩] 34 (0,0)) by simpa using (blk_set BD.out 2 (.string s)))
  have x1_:=As.mk (RfR.far (p:=⟨gd,2,none⟩) HI.out HND.out (.string s))
  have x2_:=As.mk (show Below w0.heap.size w0 (w3.setCell ⟨gd,2,none⟩ (.string s)) from (bT HB.out HDG.out))
  have x3_:=As.mk (show KeepBut w (w3.setCell ⟨gd,2,none⟩ (.string s)) g none from (keep_far (p:=⟨gd,2,none⟩) HK.out HDW.out (.string s)))
  have x4_:=As.mk (show (w3.setCell ⟨gd,2,none⟩ (.string s)).heap[gz]? = some (Obj.cells #[.int .i64 0,.string ⟨#[]⟩,.string ⟨#[]⟩,.slice none 0 0,.string ⟨#[]⟩,.string ⟨#[]⟩] 34) from (blk_far (p:=⟨gd,2,none⟩) BZ.out HZD.out (.string s)))
  clear HI HB HK BD BZ
  generalize (w3.setCell ⟨gd,2,none⟩ (.string s)) = wd at x0_ x1_ x2_ x3_ x4_ ⊢
  have BD:=x0_
  clear HDL
  have HDL:=As.mk (blk_lt BD.out)
  have HI:=x1_
  have HB:=x2_
  have HK:=x3_
  have BZ:=x4_
  clear x0_ x1_ x2_ x3_ x4_
  have hczd_0 : wd.cell? ⟨gd,0,none⟩ = some (.int .i64 1):=(bC BD.out 0).trans rfl;have hczd_1 : wd.cell? ⟨gd,1,none⟩ = some (.string c):=(bC BD.out 1).trans rfl;have hczd_2 : wd.cell? ⟨gd,2,none⟩ = some (.string s):=(bC BD.out 2).trans rfl;have hczd_3 : wd.cell? ⟨gd,3,none⟩ = some (.slice none 0 0):=(bC BD.out 3).trans rfl;have hczd_4 : wd.cell? ⟨gd,4,none⟩ = some (.string ⟨#[]⟩):=(bC BD.out 4).trans rfl;have hczd_5 : wd.cell? ⟨gd,5,none⟩ = some (.string ⟨#[]⟩):=(bC BD.out 5).trans rfl;have hfzd_0:=bF BD.out 0;have hfzd_1:=bF BD.out 1;have hfzd_2:=bF BD.out 2;have hfzd_3:=bF BD.out 3;have hfzd_4:=bF BD.out 4;have hfzd_5:=bF BD.out 5
  go_upto_region 6 with (first | (go_at_call 137;(with_reducible refine (texts_refs g b3 e3 HBO3.out w0 _ ?sideI ?sideB).mono ?_);(case sideI=>exact HI.out);(case sideB=>exact HB.out);rintro er w4 ⟨vv,rfl,hO1,hI1,hB1,hK1⟩;rw [q3.out] at hI1 hO1;simp only [] at hI1 hO1;have HO:=As.mk (Kd.R_mono hO1 (fun k hk=>Nat.lt_of_lt_of_le HDL.out hk));clear hO1;obtain ⟨Av,cv,rfl,hlv,hCv⟩:=Kd.R_reads HO.out;have HLV:=As.mk hlv;clear hlv hCv;have n0_:=As.mk hI1;have n1_:=As.mk hB1;have n2_:=As.mk (show KeepBut w w4 g none from KeepBut.trans HK.out hK1 (.inl rfl));have n3_:=As.mk (hK1.blk BZ.out HNZ.out.symm (by simp));have n5_:=As.mk (hK1.blk BD.out HND.out.symm (by simp));have n6_:=As.mk (show gd < w4.heap.size from Nat.lt_of_lt_of_le HDL.out hK1.1);clear BD HDL;have BD:=n5_;have HDL:=n6_;clear n5_ n6_;clear HI HB HK BZ hI1 hB1 hK1;have HI:=n0_;have HB:=n1_;have HK:=n2_;have BZ:=n3_;clear n0_ n1_ n2_ n3_;clear hczd_0 hfzd_0 hczd_1 hfzd_1 hczd_2 hfzd_2 hczd_3 hfzd_3 hczd_4 hfzd_4 hczd_5 hfzd_5;have hczd_0 : w4.cell? ⟨gd,0,none⟩ = some (.int .i64 1):=(bC BD.out 0).trans rfl;have hczd_1 : w4.cell? ⟨gd,1,none⟩ = some (.string c):=(bC BD.out 1).trans rfl;have hczd_2 : w4.cell? ⟨gd,2,none⟩ = some (.string s):=(bC BD.out 2).trans rfl;have hczd_3 : w4.cell? ⟨gd,3,none⟩ = some (.slice none 0 0):=(bC BD.out 3).trans rfl;have hczd_4 : w4.cell? ⟨gd,4,none⟩ = some (.string ⟨#[]⟩):=(bC BD.out 4).trans rfl;have hczd_5 : w4.cell? ⟨gd,5,none⟩ = some (.string ⟨#[]⟩):=(bC BD.out 5).trans rfl;have hfzd_0:=bF BD.out 0;have hfzd_1:=bF BD.out 1;have hfzd_2:=bF BD.out 2;have hfzd_3:=bF BD.out 3;have hfzd_4:=bF BD.out 4;have hfzd_5:=bF BD.out 5))
  have x0_:=As.mk (show (w4.setCell ⟨gd,3,none⟩ (.slice Av v.length cv)).heap[gd]? = some (Obj.cells #[.int .i64 1,.string c,.string s,.slice Av v.length cv,.string ⟨#[]⟩,.string ⟨#[]⟩] 34 (0,0)) by simpa using (blk_set BD.out 3 (.slice Av v.length cv)))
  have x1_:=As.mk (RfR.far (p:=⟨gd,3,none⟩) HI.out HND.out (.slice Av v.length cv))
  have x2_:=As.mk (show Below w0.heap.size w0 (w4.setCell ⟨gd,3,none⟩ (.slice Av v.length cv)) from (bT HB.out HDG.out))
  have x3_:=As.mk (show KeepBut w (w4.setCell ⟨gd,3,none⟩ (.slice Av v.length cv)) g none from (keep_far (p:=⟨gd,3,none⟩) HK.out HDW.out (.slice Av v.length cv)))
  have x4_:=As.mk (show (w4.setCell ⟨gd,3,none⟩ (.slice Av v.length cv)).heap[gz]? = some (Obj.cells #[.int .i64 0,.string ⟨#[]⟩,.string ⟨#[]⟩,.slice none 0 0,.string ⟨#[]⟩,.string ⟨#[]⟩] 34) from (blk_far (p:=⟨gd,3,none⟩) BZ.out HZD.out (.slice Av v.length cv)))
  have x5_:=As.mk (Kd.R_far (p:=⟨gd,3,none⟩) HO.out (fun k hk=>by show k ≠ gd;have : gd < k:=hk;omega) (.slice Av v.length cv))
  clear HI HB HK BD BZ HO
  generalize (w4.setCell ⟨gd,3,none⟩ (.slice Av v.length cv)) = wd at x0_ x1_ x2_ x3_ x4_ x5_ ⊢
  have BD:=x0_
  clear HDL
  have HDL:=As.mk (blk_lt BD.out)
  have HI:=x1_
  have HB:=x2_
  have HK:=x3_
  have BZ:=x4_
  have HO:=x5_
  clear x0_ x1_ x2_ x3_ x4_ x5_
  have hczd_0 : wd.cell? ⟨gd,0,none⟩ = some (.int .i64 1):=(bC BD.out 0).trans rfl;have hczd_1 : wd.cell? ⟨gd,1,none⟩ = some (.string c):=(bC BD.out 1).trans rfl;have hczd_2 : wd.cell? ⟨gd,2,none⟩ = some (.string s):=(bC BD.out 2).trans rfl;have hczd_3 : wd.cell? ⟨gd,3,none⟩ = some (.slice Av v.length cv):=(bC BD.out 3).trans rfl;have hczd_4 : wd.cell? ⟨gd,4,none⟩ = some (.string ⟨#[]⟩):=(bC BD.out 4).trans rfl;have hczd_5 : wd.cell? ⟨gd,5,none⟩ = some (.string ⟨#[]⟩):=(bC BD.out 5).trans rfl;have hfzd_0:=bF BD.out 0;have hfzd_1:=bF BD.out 1;have hfzd_2:=bF BD.out 2;have hfzd_3:=bF BD.out 3;have hfzd_4:=bF BD.out 4;have hfzd_5:=bF BD.out 5
  have hczz_0 : wd.cell? ⟨gz,0,none⟩ = some (.int .i64 0):=(bC BZ.out 0).trans rfl;have hczz_1 : wd.cell? ⟨gz,1,none⟩ = some (.string ⟨#[]⟩):=(bC BZ.out 1).trans rfl;have hczz_2 : wd.cell? ⟨gz,2,none⟩ = some (.string ⟨#[]⟩):=(bC BZ.out 2).trans rfl;have hczz_3 : wd.cell? ⟨gz,3,none⟩ = some (.slice none 0 0):=(bC BZ.out 3).trans rfl;have hczz_4 : wd.cell? ⟨gz,4,none⟩ = some (.string ⟨#[]⟩):=(bC BZ.out 4).trans rfl;have hczz_5 : wd.cell? ⟨gz,5,none⟩ = some (.string ⟨#[]⟩):=(bC BZ.out 5).trans rfl;have hfzz_0:=bF BZ.out 0;have hfzz_1:=bF BZ.out 1;have hfzz_2:=bF BZ.out 2;have hfzz_3:=bF BZ.out 3;have hfzz_4:=bF BZ.out 4;have hfzz_5:=bF BZ.out 5
  have hczr_0 : wd.cell? ⟨g,0,none⟩ = some (.string (strOfNums b4)):=(bC HI.out.1 0).trans rfl;have hczr_1 : wd.cell? ⟨g,1,none⟩ = some (.int .i64 e4):=(bC HI.out.1 1).trans rfl;have hfzr_0:=bF HI.out.1 0;have hfzr_1:=bF HI.out.1 1;have hngz:=HNZ.out;have hngy:=HNZ.out.symm
  have HZLT:=As.mk (show gz < gd by have:=HZL.out;omega)
  by_cases z1 : e4 = 0
  ·have z1a : (e4 != 0) = false:=bne_eq_false_iff_eq.mpr z1
   have z1b : (e4 == 0) = true:=beq_iff_eq.mpr z1
   obtain ⟨K_,hRT⟩:=ev_out (refRight_val 1 c s v ⟨#[]⟩ ⟨#[]⟩ (by have:=HSZ.out.2.2.1;omega) (fun x hx=>by have:=HSZ.out.2.2.2.2 x hx;omega) (by have:=HSZ.out.1;omega) (by have:=HSZ.out.2.1;omega) (by have:=HSZ.out.2.2.2.1;omega))
   have hRT:=hRT K_ (Nat.le_refl _)
   have hdr : DV.right ⟨1,c,s,v,⟨#[]⟩,⟨#[]⟩⟩ = rightD 1 c s v ⟨#[]⟩ ⟨#[]⟩:=rfl
   obtain ⟨rb,hrb⟩ : ∃ rb,rightD 1 c s v ⟨#[]⟩ ⟨#[]⟩ = rb:=⟨_,rfl⟩
   rw [hrb] at hRT hdr
   have HRT:=As.mk hRT
   have HDR:=As.mk hdr
   have Z1:=As.mk z1
   clear hRT hdr hrb z1
   cases rb with
   | false =>
   go_wp2_with (first | (go_at_call 24;(with_reducible refine (Nm.calls_args ?same (r07_Right.calls K_ 1 c s Av cv v ⟨#[]⟩ ⟨#[]⟩ _ _ ?side1 ?side2 HRT.out)).mono ?_);(case same=>rfl);(case side1=>exact (Kd.R_reads' HO.out).2.2);(case side2=>exact HLV.out);rintro er w9 ⟨rfl,hb1⟩;have n0_:=As.mk (RfR.below HI.out hb1);have n1_:=As.mk (bS HB.out hb1);have n2_:=As.mk (KeepBut.trans HK.out (KeepBut.of_below hb1 g none) (.inl rfl));have n3_:=As.mk (blk_below BZ.out hb1);have n4_:=As.mk (blk_below BD.out hb1);have n5_:=As.mk (Kd.R_below HO.out hb1);clear HI HB HK BZ BD HO hb1;have HI:=n0_;have HB:=n1_;have HK:=n2_;have BZ:=n3_;have BD:=n4_;have HO:=n5_;clear n0_ n1_ n2_ n3_ n4_ n5_;clear hczd_0 hfzd_0 hczd_1 hfzd_1 hczd_2 hfzd_2 hczd_3 hfzd_3 hczd_4 hfzd_4 hczd_5 hfzd_5;clear hczz_0 hfzz_0 hczz_1 hfzz_1 hczz_2 hfzz_2 hczz_3 hfzz_3 hczz_4 hfzz_4 hczz_5 hfzz_5;have hczd_0 : w9.cell? ⟨gd,0,none⟩ = some (.int .i64 1):=(bC BD.out 0).trans rfl;have hczd_1 : w9.cell? ⟨gd,1,none⟩ = some (.string c):=(bC BD.out 1).trans rfl;have hczd_2 : w9.cell? ⟨gd,2,none⟩ = some (.string s):=(bC BD.out 2).trans rfl;have hczd_3 : w9.cell? ⟨gd,3,none⟩ = some (.slice Av v.length cv):=(bC BD.out 3).trans rfl;have hczd_4 : w9.cell? ⟨gd,4,none⟩ = some (.string ⟨#[]⟩):=(bC BD.out 4).trans rfl;have hczd_5 : w9.cell? ⟨gd,5,none⟩ = some (.string ⟨#[]⟩):=(bC BD.out 5).trans rfl;have hfzd_0:=bF BD.out 0;have hfzd_1:=bF BD.out 1;have hfzd_2:=bF BD.out 2;have hfzd_3:=bF BD.out 3;have hfzd_4:=bF BD.out 4;have hfzd_5:=bF BD.out 5;have hczz_0 : w9.cell? ⟨gz,0,none⟩ = some (.int .i64 0):=(bC BZ.out 0).trans rfl;have hczz_1 : w9.cell? ⟨gz,1,none⟩ = some (.string ⟨#[]⟩):=(bC BZ.out 1).trans rfl;have hczz_2 : w9.cell? ⟨gz,2,none⟩ = some (.string ⟨#[]⟩):=(bC BZ.out 2).trans rfl;have hczz_3 : w9.cell? ⟨gz,3,none⟩ = some (.slice none 0 0):=(bC BZ.out 3).trans rfl;have hczz_4 : w9.cell? ⟨gz,4,none⟩ = some (.string ⟨#[]⟩):=(bC BZ.out 4).trans rfl;have hczz_5 : w9.cell? ⟨gz,5,none⟩ = some (.string ⟨#[]⟩):=(bC BZ.out 5).trans rfl;have hfzz_0:=bF BZ.out 0;have hfzz_1:=bF BZ.out 1;have hfzz_2:=bF BZ.out 2;have hfzz_3:=bF BZ.out 3;have hfzz_4:=bF BZ.out 4;have hfzz_5:=bF BZ.out 5))
   (try simp only [Exit.inBlock,Exit.then])
   refine bodyPost_ret (v:=.tuple #[.agg #[.int .i64 0,.string ⟨#[]⟩,.string ⟨#[]⟩,.slice none 0 0,.string ⟨#[]⟩,.string ⟨#[]⟩],.int .i64 31]) ?_ rfl ?_
   ·rw [results_cell_tmp rfl]
    go_simp
   rw [QR.out,finR_not Z1.out HDR.out]
   exact ⟨_,rfl,Kd.R_nil _ _ _ _ _,(by repeat (first | (with_reducible first | exact HI.out | apply RfR.drew | refine RfR.far ?_ HNZ.out _) | exact HI.out)),(by repeat (first | (with_reducible first | exact HB.out | apply bD | refine bT ?_ HZ0.out) | exact HB.out)),(by repeat (first | (with_reducible first | exact HK.out | refine keep_far ?_ HZW.out _ | apply keep_drew) | exact HK.out))⟩
   | true =>
   go_wp2_with (first | (go_at_call 24;(with_reducible refine (Nm.calls_args ?same (r07_Right.calls K_ 1 c s Av cv v ⟨#[]⟩ ⟨#[]⟩ _ _ ?side1 ?side2 HRT.out)).mono ?_);(case same=>rfl);(case side1=>exact (Kd.R_reads' HO.out).2.2);(case side2=>exact HLV.out);rintro er w9 ⟨rfl,hb1⟩;have n0_:=As.mk (RfR.below HI.out hb1);have n1_:=As.mk (bS HB.out hb1);have n2_:=As.mk (KeepBut.trans HK.out (KeepBut.of_below hb1 g none) (.inl rfl));have n3_:=As.mk (blk_below BZ.out hb1);have n4_:=As.mk (blk_below BD.out hb1);have n5_:=As.mk (Kd.R_below HO.out hb1);clear HI HB HK BZ BD HO hb1;have HI:=n0_;have HB:=n1_;have HK:=n2_;have BZ:=n3_;have BD:=n4_;have HO:=n5_;clear n0_ n1_ n2_ n3_ n4_ n5_;clear hczd_0 hfzd_0 hczd_1 hfzd_1 hczd_2 hfzd_2 hczd_3 hfzd_3 hczd_4 hfzd_4 hczd_5 hfzd_5;clear hczz_0 hfzz_0 hczz_1 hfzz_1 hczz_2 hfzz_2 hczz_3 hfzz_3 hczz_4 hfzz_4 hczz_5 hfzz_5;have hczd_0 : w9.cell? ⟨gd,0,none⟩ = some (.int .i64 1):=(bC BD.out 0).trans rfl;have hczd_1 : w9.cell? ⟨gd,1,none⟩ = some (.string c):=(bC BD.out 1).trans rfl;have hczd_2 : w9.cell? ⟨gd,2,none⟩ = some (.string s):=(bC BD.out 2).trans rfl;have hczd_3 : w9.cell? ⟨gd,3,none⟩ = some (.slice Av v.length cv):=(bC BD.out 3).trans rfl;have hczd_4 : w9.cell? ⟨gd,4,none⟩ = some (.string ⟨#[]⟩):=(bC BD.out 4).trans rfl;have hczd_5 : w9.cell? ⟨gd,5,none⟩ = some (.string ⟨#[]⟩):=(bC BD.out 5).trans rfl;have hfzd_0:=bF BD.out 0;have hfzd_1:=bF BD.out 1;have hfzd_2:=bF BD.out 2;have hfzd_3:=bF BD.out 3;have hfzd_4:=bF BD.out 4;have hfzd_5:=bF BD.out 5;have hczz_0 : w9.cell? ⟨gz,0,none⟩ = some (.int .i64 0):=(bC BZ.out 0).trans rfl;have hczz_1 : w9.cell? ⟨gz,1,none⟩ = some (.string ⟨#[]⟩):=(bC BZ.out 1).trans rfl;have hczz_2 : w9.cell? ⟨gz,2,none⟩ = some (.string ⟨#[]⟩):=(bC BZ.out 2).trans rfl;have hczz_3 : w9.cell? ⟨gz,3,none⟩ = some (.slice none 0 0):=(bC BZ.out 3).trans rfl;have hczz_4 : w9.cell? ⟨gz,4,none⟩ = some (.string ⟨#[]⟩):=(bC BZ.out 4).trans rfl;have hczz_5 : w9.cell? ⟨gz,5,none⟩ = some (.string ⟨#[]⟩):=(bC BZ.out 5).trans rfl;have hfzz_0:=bF BZ.out 0;have hfzz_1:=bF BZ.out 1;have hfzz_2:=bF BZ.out 2;have hfzz_3:=bF BZ.out 3;have hfzz_4:=bF BZ.out 4;have hfzz_5:=bF BZ.out 5))
   (try simp only [Exit.inBlock,Exit.then])
   refine bodyPost_ret (v:=.tuple #[.agg #[.int .i64 1,.string c,.string s,.slice Av v.length cv,.string ⟨#[]⟩,.string ⟨#[]⟩],.int .i64 0]) ?_ rfl ?_
   ·rw [results_cell_tmp rfl]
    go_simp
   rw [QR.out,finR_good Z1.out HDR.out]
   exact ⟨_,rfl,Kd.R_mono (by repeat (first | (with_reducible first | exact HO.out) | refine Kd.R_far (ok:=fun k=>gd < k) ?_ (fun k hk=>by show k ≠ gz;have h_ : gd < k:=hk;have:=HZLT.out;omega) _ | exact HO.out)) (fun k hk=>by have:=HDW.out;have hk2 : gd < k:=hk;omega),(by repeat (first | (with_reducible first | exact HI.out | apply RfR.drew | refine RfR.far ?_ HNZ.out _) | exact HI.out)),(by repeat (first | (with_reducible first | exact HB.out | apply bD | refine bT ?_ HZ0.out) | exact HB.out)),(by repeat (first | (with_reducible first | exact HK.out | refine keep_far ?_ HZW.out _ | apply keep_drew) | exact HK.out))⟩
  ·have z1a : (e4 != 0) = true:=bne_iff_ne.mpr z1
   have z1b : (e4 == 0) = false:=beq_eq_false_iff_ne.mpr z1
   go_upto_region 11 with (fail)
   refine start_ (n:=7) (S:=fun w'=>w'.cell? ⟨g,1,none⟩ = some (.int .i64 e4)) (ds:=[]) #[false,false,false,false,false,false,false] (by kernel_rfl) rfl rfl hczr_1 (fun hHeld=>?_);refine with_tabW refread.tab11 refread.bits11 (fun HT_ HW_=>?_)
   refine pure_ (i:=0) (N:=some 37) (v:=?_) (a':=?_) #[true,false,false,false,false,false,false] rfl rfl (any_of HT_.out (by kernel_rfl)) (fun _ _ _ h=>h) (Or.inl ⟨by rfl,?_⟩) ?_ ?_
   rotate_left
   ·intro w'
    go_simp
    with_reducible rfl
   rotate_left
   ·simp only [Act.put,List.setIfInBounds_toArray,List.set_cons_zero,List.set_cons_succ,i64_w,i32_w]
    rfl
   refine pure_ (i:=1) (N:=some 38) (v:=?_) (a':=?_) #[true,true,false,false,false,false,false] rfl rfl (any_of HT_.out (by kernel_rfl)) (fun _ _ _ h=>h) (Or.inl ⟨by rfl,?_⟩) ?_ ?_
   rotate_left
   ·intro w'
    go_simp
    with_reducible rfl
   rotate_left
   ·simp only [Act.put,List.setIfInBounds_toArray,List.set_cons_zero,List.set_cons_succ,i64_w,i32_w]
    rfl
   refine pure_ (i:=2) (N:=some 39) (v:=?_) (a':=?_) #[true,true,true,false,false,false,false] rfl rfl (any_of HT_.out (by kernel_rfl)) (fun _ _ _ h=>h) (Or.inl ⟨by rfl,?_⟩) ?_ ?_
   rotate_left
   ·intro w'
    go_simp
    with_reducible rfl
   rotate_left
   ·simp only [Act.put,List.setIfInBounds_toArray,List.set_cons_zero,List.set_cons_succ,i64_w,i32_w]
    rfl
   refine pure_ (i:=3) (N:=some 40) (v:=?_) (a':=?_) #[true,true,true,true,false,false,false] rfl rfl (any_of HT_.out (by kernel_rfl)) (fun _ _ _ h=>h) (Or.inl ⟨by rfl,?_⟩) ?_ ?_
   rotate_left
   ·intro w'
    go_simp
    with_reducible rfl
   rotate_left
   ·simp only [Act.put,List.setIfInBounds_toArray,List.set_cons_zero,List.set_cons_succ,i64_w,i32_w]
    rfl
   refine take_ (i:=4) (N:=some 41) (v:=?_) (a':=?_) #[true,true,true,true,true,false,false] rfl rfl (take_ofW HT_.out HW_.out (by kernel_rfl)) (fun _ _ _ h=>h) (Or.inl ⟨by rfl,?_⟩) hHeld ?_ ?_
   rotate_left
   ·rintro w' s0
    go_simp
    with_reducible rfl
   rotate_left
   ·simp only [Act.put,List.setIfInBounds_toArray,List.set_cons_zero,List.set_cons_succ,i64_w,i32_w]
    rfl
   refine one_ (i:=5) (N:=none) #[true,true,true,true,true,true,false] rfl rfl (one_of HT_.out (by kernel_rfl)) (by decide) (fun K hK=>?_)
   refine skip_ (w1:=?_) (by rfl) rfl ?_ ?_
   rotate_left
   ·go_simp
    rfl
   refine hK.out _ _ ((bC (RfR.drew (RfR.far (p:=⟨gz,5,none⟩) (RfR.far (p:=⟨gz,4,none⟩) (RfR.far (p:=⟨gz,3,none⟩) (RfR.far (p:=⟨gz,2,none⟩) (RfR.far (p:=⟨gz,1,none⟩) (RfR.far (p:=⟨gz,0,none⟩) HI.out HNZ.out (.int .i64 0)) HNZ.out (.string ⟨#[]⟩)) HNZ.out (.string ⟨#[]⟩)) HNZ.out (.slice none 0 0)) HNZ.out (.string ⟨#[]⟩)) HNZ.out (.string ⟨#[]⟩))).1 1).trans rfl) (fun hHeld=>?_)
   clear hK K
   refine pure_ (i:=6) (N:=some 3) (v:=?_) (a':=?_) #[true,true,true,true,true,true,true] rfl rfl (any_of HT_.out (by kernel_rfl)) (fun _ _ _ h=>h) (Or.inl ⟨by rfl,?_⟩) ?_ ?_
   rotate_left
   ·intro w'
    go_simp
    with_reducible rfl
   rotate_left
   ·simp only [Act.put,List.setIfInBounds_toArray,List.set_cons_zero,List.set_cons_succ,i64_w,i32_w]
    rfl
   refine done_ (done_of HT_.out (by kernel_rfl)) ?_
   try go_wp2_with (fail)
   (try simp only [Exit.inBlock,Exit.then])
   refine bodyPost_ret (v:=.tuple #[.agg #[.int .i64 0,.string ⟨#[]⟩,.string ⟨#[]⟩,.slice none 0 0,.string ⟨#[]⟩,.string ⟨#[]⟩],.int .i64 e4]) ?_ rfl ?_
   ·rw [results_cell_tmp rfl]
    go_simp
   rw [QR.out,finR_err z1]
   exact ⟨_,rfl,Kd.R_nil _ _ _ _ _,(by repeat (first | (with_reducible first | exact HI.out | apply RfR.drew | refine RfR.far ?_ HNZ.out _) | exact HI.out)),(by repeat (first | (with_reducible first | exact HB.out | apply bD | refine bT ?_ HZ0.out) | exact HB.out)),(by repeat (first | (with_reducible first | exact HK.out | refine keep_far ?_ HZW.out _ | apply keep_drew) | exact HK.out))⟩
 ·have k1a : (kd == 1) = false:=beq_eq_false_iff_ne.mpr k1
  by_cases k2 : kd = 2
  ·have k2a : (kd == 2) = true:=beq_iff_eq.mpr k2
   obtain ⟨c,b2,e2,h1_⟩ : ∃ c b2 e2,textR b1 e1 = (c,b2,e2):=⟨_,_,_,rfl⟩
   have q1:=As.mk h1_
   have o1_:=textR_ok (e:=e1) HBO1.out
   have z1_:=textR_size (e:=e1) HBO1.out
   rw [h1_] at o1_ z1_
   have HBO2:=As.mk o1_.1
   obtain ⟨l,b3,e3,h2_⟩ : ∃ l b3 e3,textR b2 e2 = (l,b3,e3):=⟨_,_,_,rfl⟩
   have q2:=As.mk h2_
   have o2_:=textR_ok (e:=e2) HBO2.out
   have z2_:=textR_size (e:=e2) HBO2.out
   rw [h2_] at o2_ z2_
   have HBO3:=As.mk o2_.1
   obtain ⟨t,b4,e4,h3_⟩ : ∃ t b4 e4,textR b3 e3 = (t,b4,e4):=⟨_,_,_,rfl⟩
   have q3:=As.mk h3_
   have HSZ:=As.mk (show c.size ≤ 100000 ∧ (⟨#[]⟩ : ByteArray).size ≤ 100000 ∧ ([] : List ByteArray).length ≤ 1000000 ∧ l.size ≤ 100000 ∧ ∀ x ∈ ([] : List ByteArray),x.size ≤ 100000 from by
    have hm:=HM.out
    have hl:=HL1.out
    have a1:=o1_.2
    have a2:=o2_.2
    simp only [] at z1_ z2_ a1 a2
    exact ⟨by omega,Nat.zero_le _,Nat.zero_le _,by omega,fun x hx=>by cases hx⟩)
   clear o1_ o2_ z1_ z2_ h1_ h2_ h3_
   have QR:=As.mk (readR_method hq.out k2 q1.out q2.out q3.out)
   subst k2
   go_upto_region 8 with (first | (go_at_call 136;(with_reducible refine (text_refs g b1 e1 HBO1.out w0 _ ?sideI ?sideB).mono ?_);(case sideI=>exact HI.out);(case sideB=>exact HB.out);rintro er w2 ⟨rfl,hI1,hB1,hK1⟩;rw [q1.out] at hI1;simp only [] at hI1;rw [q1.out];simp only [];have n0_:=As.mk hI1;have n1_:=As.mk hB1;have n2_:=As.mk (show KeepBut w w2 g none from KeepBut.trans HK.out hK1 (.inl rfl));have n3_:=As.mk (hK1.blk BZ.out HNZ.out.symm (by simp));have n5_:=As.mk (hK1.blk BD.out HND.out.symm (by simp));have n6_:=As.mk (show gd < w2.heap.size from Nat.lt_of_lt_of_le HDL.out hK1.1);clear BD HDL;have BD:=n5_;have HDL:=n6_;clear n5_ n6_;clear HI HB HK BZ hI1 hB1 hK1;have HI:=n0_;have HB:=n1_;have HK:=n2_;have BZ:=n3_;clear n0_ n1_ n2_ n3_;clear hczd_0 hfzd_0 hczd_1 hfzd_1 hczd_2 hfzd_2 hczd_3 hfzd_3 hczd_4 hfzd_4 hczd_5 hfzd_5;have hczd_0 : w2.cell? ⟨gd,0,none⟩ = some (.int .i64 2):=(bC BD.out 0).trans rfl;have hczd_1 : w2.cell? ⟨gd,1,none⟩ = some (.string ⟨#[]⟩):=(bC BD.out 1).trans rfl;have hczd_2 : w2.cell? ⟨gd,2,none⟩ = some (.string ⟨#[]⟩):=(bC BD.out 2).trans rfl;have hczd_3 : w2.cell? ⟨gd,3,none⟩ = some (.slice none 0 0):=(bC BD.out 3).trans rfl;have hczd_4 : w2.cell? ⟨gd,4,none⟩ = some (.string ⟨#[]⟩):=(bC BD.out 4).trans rfl;have hczd_5 : w2.cell? ⟨gd,5,none⟩ = some (.string ⟨#[]⟩):=(bC BD.out 5).trans rfl;have hfzd_0:=bF BD.out 0;have hfzd_1:=bF BD.out 1;have hfzd_2:=bF BD.out 2;have hfzd_3:=bF BD.out 3;have hfzd_4:=bF BD.out 4;have hfzd_5:=bF BD.out 5))
   have x0_:=As.mk (show (w2.setCell ⟨gd,1,none⟩ (.string c)).heap[gd]? = some (Obj.cells #[.int .i64 2,.string c,.string ⟨#[]⟩,.slice none 0 0,.string ⟨#[]⟩,.string ⟨#[]⟩] 34 (0,0)) by simpa using (blk_set BD.out 1 (.string c)))
   have x1_:=As.mk (RfR.far (p:=⟨gd,1,none⟩) HI.out HND.out (.string c))
   have x2_:=As.mk (show Below w0.heap.size w0 (w2.setCell ⟨gd,1,none⟩ (.string c)) from (bT HB.out HDG.out))
   have x3_:=As.mk (show KeepBut w (w2.setCell ⟨gd,1,none⟩ (.string c)) g none from (keep_far (p:=⟨gd,1,none⟩) HK.out HDW.out (.string c)))
   have x4_:=As.mk (show (w2.setCell ⟨gd,1,none⟩ (.string c)).heap[gz]? = some (Obj.cells #[.int .i64 0,.string ⟨#[]⟩,.string ⟨#[]⟩,.slice none 0 0,.string ⟨#[]⟩,.string ⟨#[]⟩] 34) from (blk_far (p:=⟨gd,1,none⟩) BZ.out HZD.out (.string c)))
   clear HI HB HK BD BZ
   generalize (w2.setCell ⟨gd,1,none⟩ (.string c)) = wd at x0_ x1_ x2_ x3_ x4_ ⊢
   have BD:=x0_
   clear HDL
   have HDL:=As.mk (blk_lt BD.out)
   have HI:=x1_
   have HB:=x2_
   have HK:=x3_
   have BZ:=x4_
   clear x0_ x1_ x2_ x3_ x4_
   have hczd_0 : wd.cell? ⟨gd,0,none⟩ = some (.int .i64 2):=(bC BD.out 0).trans rfl;have hczd_1 : wd.cell? ⟨gd,1,none⟩ = some (.string c):=(bC BD.out 1).trans rfl;have hczd_2 : wd.cell? ⟨gd,2,none⟩ = some (.string ⟨#[]⟩):=(bC BD.out 2).trans rfl;have hczd_3 : wd.cell? ⟨gd,3,none⟩ = some (.slice none 0 0):=(bC BD.out 3).trans rfl;have hczd_4 : wd.cell? ⟨gd,4,none⟩ = some (.string ⟨#[]⟩):=(bC BD.out 4).trans rfl;have hczd_5 : wd.cell? ⟨gd,5,none⟩ = some (.string ⟨#[]⟩):=(bC BD.out 5).trans rfl;have hfzd_0:=bF BD.out 0;have hfzd_1:=bF BD.out 1;have hfzd_2:=bF BD.out 2;have hfzd_3:=bF BD.out 3;have hfzd_4:=bF BD.out 4;have hfzd_5:=bF BD.out 5
   go_upto_region 9 with (first | (go_at_call 136;(with_reducible refine (text_refs g b2 e2 HBO2.out w0 _ ?sideI ?sideB).mono ?_);(case sideI=>exact HI.out);(case sideB=>exact HB.out);rintro er w3 ⟨rfl,hI1,hB1,hK1⟩;rw [q2.out] at hI1;simp only [] at hI1;rw [q2.out];simp only [];have n0_:=As.mk hI1;have n1_:=As.mk hB1;have n2_:=As.mk (show KeepBut w w3 g none from KeepBut.trans HK.out hK1 (.inl rfl));have n3_:=As.mk (hK1.blk BZ.out HNZ.out.symm (by simp));have n5_:=As.mk (hK1.blk BD.out HND.out.symm (by simp));have n6_:=As.mk (show gd < w3.heap.size from Nat.lt_of_lt_of_le HDL.out hK1.1);clear BD HDL;have BD:=n5_;have HDL:=n6_;clear n5_ n6_;clear HI HB HK BZ hI1 hB1 hK1;have HI:=n0_;have HB:=n1_;have HK:=n2_;have BZ:=n3_;clear n0_ n1_ n2_ n3_;clear hczd_0 hfzd_0 hczd_1 hfzd_1 hczd_2 hfzd_2 hczd_3 hfzd_3 hczd_4 hfzd_4 hczd_5 hfzd_5;have hczd_0 : w3.cell? ⟨gd,0,none⟩ = some (.int .i64 2):=(bC BD.out 0).trans rfl;have hczd_1 : w3.cell? ⟨gd,1,none⟩ = some (.string c):=(bC BD.out 1).trans rfl;have hczd_2 : w3.cell? ⟨gd,2,none⟩ = some (.string ⟨#[]⟩):=(bC BD.out 2).trans rfl;have hczd_3 : w3.cell? ⟨gd,3,none⟩ = some (.slice none 0 0):=(bC BD.out 3).trans rfl;have hczd_4 : w3.cell? ⟨gd,4,none⟩ = some (.string ⟨#[]⟩):=(bC BD.out 4).trans rfl;have hczd_5 : w3.cell? ⟨gd,5,none⟩ = some (.string ⟨#[]⟩):=(bC BD.out 5).trans rfl;have hfzd_0:=bF BD.out 0;have hfzd_1:=bF BD.out 1;have hfzd_2:=bF BD.out 2;have hfzd_3:=bF BD.out 3;have hfzd_4:=bF BD.out 4;have hfzd_5:=bF BD.out 5))
   have x0_:=As.mk (show (w3.setCell ⟨gd,4,none⟩ (.string l)).heap[gd]? = some (Obj.cells #[.int .i64 2,.string c,.string ⟨#[]⟩,.slice none 0 0,.string l,.string ⟨#[]⟩] 34 (0,0)) by simpa using (blk_set BD.out 4 (.string l)))
   have x1_:=As.mk (RfR.far (p:=⟨gd,4,none⟩) HI.out HND.out (.string l))
   have x2_:=As.mk (show Below w0.heap.size w0 (w3.setCell ⟨gd,4,none⟩ (.string l)) from (bT HB.out HDG.out))
   have x3_:=As.mk (show KeepBut w (w3.setCell ⟨gd,4,none⟩ (.string l)) g none from (keep_far (p:=⟨gd,4,none⟩) HK.out HDW.out (.string l)))
   have x4_:=As.mk (show (w3.setCell ⟨gd,4,none⟩ (.string l)).heap[gz]? = some (Obj.cells #[.int .i64 0,.string ⟨#[]⟩,.string ⟨#[]⟩,.slice none 0 0,.string ⟨#[]⟩,.string ⟨#[]⟩] 34) from (blk_far (p:=⟨gd,4,none⟩) BZ.out HZD.out (.string l)))
   clear HI HB HK BD BZ
   generalize (w3.setCell ⟨gd,4,none⟩ (.string l)) = wd at x0_ x1_ x2_ x3_ x4_ ⊢
   have BD:=x0_
   clear HDL
   have HDL:=As.mk (blk_lt BD.out)
   have HI:=x1_
   have HB:=x2_
   have HK:=x3_
   have BZ:=x4_
   clear x0_ x1_ x2_ x3_ x4_
   have hczd_0 : wd.cell? ⟨gd,0,none⟩ = some (.int .i64 2):=(bC BD.out 0).trans rfl;have hczd_1 : wd.cell? ⟨gd,1,none⟩ = some (.string c):=(bC BD.out 1).trans rfl;have hczd_2 : wd.cell? ⟨gd,2,none⟩ = some (.string ⟨#[]⟩):=(bC BD.out 2).trans rfl;have hczd_3 : wd.cell? ⟨gd,3,none⟩ = some (.slice none 0 0):=(bC BD.out 3).trans rfl;have hczd_4 : wd.cell? ⟨gd,4,none⟩ = some (.string l):=(bC BD.out 4).trans rfl;have hczd_5 : wd.cell? ⟨gd,5,none⟩ = some (.string ⟨#[]⟩):=(bC BD.out 5).trans rfl;have hfzd_0:=bF BD.out 0;have hfzd_1:=bF BD.out 1;have hfzd_2:=bF BD.out 2;have hfzd_3:=bF BD.out 3;have hfzd_4:=bF BD.out 4;have hfzd_5:=bF BD.out 5
   go_upto_region 10 with (first | (go_at_call 136;(with_reducible refine (text_refs g b3 e3 HBO3.out w0 _ ?sideI ?sideB).mono ?_);(case sideI=>exact HI.out);(case sideB=>exact HB.out);rintro er w4 ⟨rfl,hI1,hB1,hK1⟩;rw [q3.out] at hI1;simp only [] at hI1;rw [q3.out];simp only [];have n0_:=As.mk hI1;have n1_:=As.mk hB1;have n2_:=As.mk (show KeepBut w w4 g none from KeepBut.trans HK.out hK1 (.inl rfl));have n3_:=As.mk (hK1.blk BZ.out HNZ.out.symm (by simp));have n5_:=As.mk (hK1.blk BD.out HND.out.symm (by simp));have n6_:=As.mk (show gd < w4.heap.size from Nat.lt_of_lt_of_le HDL.out hK1.1);clear BD HDL;have BD:=n5_;have HDL:=n6_;clear n5_ n6_;clear HI HB HK BZ hI1 hB1 hK1;have HI:=n0_;have HB:=n1_;have HK:=n2_;have BZ:=n3_;clear n0_ n1_ n2_ n3_;clear hczd_0 hfzd_0 hczd_1 hfzd_1 hczd_2 hfzd_2 hczd_3 hfzd_3 hczd_4 hfzd_4 hczd_5 hfzd_5;have hczd_0 : w4.cell? ⟨gd,0,none⟩ = some (.int .i64 2):=(bC BD.out 0).trans rfl;have hczd_1 : w4.cell? ⟨gd,1,none⟩ = some (.string c):=(bC BD.out 1).trans rfl;have hczd_2 : w4.cell? ⟨gd,2,none⟩ = some (.string ⟨#[]⟩):=(bC BD.out 2).trans rfl;have hczd_3 : w4.cell? ⟨gd,3,none⟩ = some (.slice none 0 0):=(bC BD.out 3).trans rfl;have hczd_4 : w4.cell? ⟨gd,4,none⟩ = some (.string l):=(bC BD.out 4).trans rfl;have hczd_5 : w4.cell? ⟨gd,5,none⟩ = some (.string ⟨#[]⟩):=(bC BD.out 5).trans rfl;have hfzd_0:=bF BD.out 0;have hfzd_1:=bF BD.out 1;have hfzd_2:=bF BD.out 2;have hfzd_3:=bF BD.out 3;have hfzd_4:=bF BD.out 4;have hfzd_5:=bF BD.out 5))
   have x0_:=As.mk (show (w4.setCell ⟨gd,5,none⟩ (.string t)).heap[gd]? = some (Obj.cells #[.int .i64 2,.string c,.string ⟨#[]⟩,.slice none 0 0,.string l,.string t] 34 (0,0)) by simpa using (blk_set BD.out 5 (.string t)))
   have x1_:=As.mk (RfR.far (p:=⟨gd,5,none⟩) HI.out HND.out (.string t))
   have x2_:=As.mk (show Below w0.heap.size w0 (w4.setCell ⟨gd,5,none⟩ (.string t)) from (bT HB.out HDG.out))
   have x3_:=As.mk (show KeepBut w (w4.setCell ⟨gd,5,none⟩ (.string t)) g none from (keep_far (p:=⟨gd,5,none⟩) HK.out HDW.out (.string t)))
   have x4_:=As.mk (show (w4.setCell ⟨gd,5,none⟩ (.string t)).heap[gz]? = some (Obj.cells #[.int .i64 0,.string ⟨#[]⟩,.string ⟨#[]⟩,.slice none 0 0,.string ⟨#[]⟩,.string ⟨#[]⟩] 34) from (blk_far (p:=⟨gd,5,none⟩) BZ.out HZD.out (.string t)))
   clear HI HB HK BD BZ
   generalize (w4.setCell ⟨gd,5,none⟩ (.string t)) = wd at x0_ x1_ x2_ x3_ x4_ ⊢
   have BD:=x0_
   clear HDL
   have HDL:=As.mk (blk_lt BD.out)
   have HI:=x1_
   have HB:=x2_
   have HK:=x3_
   have BZ:=x4_
   clear x0_ x1_ x2_ x3_ x4_
   have HO:=As.mk (Kd.R_nil Kd.string 9 wd w0.heap.size (fun k=>gd < k))
   have HLV:=As.mk (show ([] : List ByteArray).length ≤ 0 from Nat.le_refl _)
   have hczd_0 : wd.cell? ⟨gd,0,none⟩ = some (.int .i64 2):=(bC BD.out 0).trans rfl;have hczd_1 : wd.cell? ⟨gd,1,none⟩ = some (.string c):=(bC BD.out 1).trans rfl;have hczd_2 : wd.cell? ⟨gd,2,none⟩ = some (.string ⟨#[]⟩):=(bC BD.out 2).trans rfl;have hczd_3 : wd.cell? ⟨gd,3,none⟩ = some (.slice none 0 0):=(bC BD.out 3).trans rfl;have hczd_4 : wd.cell? ⟨gd,4,none⟩ = some (.string l):=(bC BD.out 4).trans rfl;have hczd_5 : wd.cell? ⟨gd,5,none⟩ = some (.string t):=(bC BD.out 5).trans rfl;have hfzd_0:=bF BD.out 0;have hfzd_1:=bF BD.out 1;have hfzd_2:=bF BD.out 2;have hfzd_3:=bF BD.out 3;have hfzd_4:=bF BD.out 4;have hfzd_5:=bF BD.out 5
   have hczz_0 : wd.cell? ⟨gz,0,none⟩ = some (.int .i64 0):=(bC BZ.out 0).trans rfl;have hczz_1 : wd.cell? ⟨gz,1,none⟩ = some (.string ⟨#[]⟩):=(bC BZ.out 1).trans rfl;have hczz_2 : wd.cell? ⟨gz,2,none⟩ = some (.string ⟨#[]⟩):=(bC BZ.out 2).trans rfl;have hczz_3 : wd.cell? ⟨gz,3,none⟩ = some (.slice none 0 0):=(bC BZ.out 3).trans rfl;have hczz_4 : wd.cell? ⟨gz,4,none⟩ = some (.string ⟨#[]⟩):=(bC BZ.out 4).trans rfl;have hczz_5 : wd.cell? ⟨gz,5,none⟩ = some (.string ⟨#[]⟩):=(bC BZ.out 5).trans rfl;have hfzz_0:=bF BZ.out 0;have hfzz_1:=bF BZ.out 1;have hfzz_2:=bF BZ.out 2;have hfzz_3:=bF BZ.out 3;have hfzz_4:=bF BZ.out 4;have hfzz_5:=bF BZ.out 5
   have hczr_0 : wd.cell? ⟨g,0,none⟩ = some (.string (strOfNums b4)):=(bC HI.out.1 0).trans rfl;have hczr_1 : wd.cell? ⟨g,1,none⟩ = some (.int .i64 e4):=(bC HI.out.1 1).trans rfl;have hfzr_0:=bF HI.out.1 0;have hfzr_1:=bF HI.out.1 1;have hngz:=HNZ.out;have hngy:=HNZ.out.symm
   have HZLT:=As.mk (show gz < gd by have:=HZL.out;omega)
   by_cases z1 : e4 = 0
   ·have z1a : (e4 != 0) = false:=bne_eq_false_iff_eq.mpr z1
    have z1b : (e4 == 0) = true:=beq_iff_eq.mpr z1
    obtain ⟨K_,hRT⟩:=ev_out (refRight_val 2 c ⟨#[]⟩ [] l t (by have:=HSZ.out.2.2.1;omega) (fun x hx=>by have:=HSZ.out.2.2.2.2 x hx;omega) (by have:=HSZ.out.1;omega) (by have:=HSZ.out.2.1;omega) (by have:=HSZ.out.2.2.2.1;omega))
    have hRT:=hRT K_ (Nat.le_refl _)
    have hdr : DV.right ⟨2,c,⟨#[]⟩,[],l,t⟩ = rightD 2 c ⟨#[]⟩ [] l t:=rfl
    obtain ⟨rb,hrb⟩ : ∃ rb,rightD 2 c ⟨#[]⟩ [] l t = rb:=⟨_,rfl⟩
    rw [hrb] at hRT hdr
    have HRT:=As.mk hRT
    have HDR:=As.mk hdr
    have Z1:=As.mk z1
    clear hRT hdr hrb z1
    cases rb with
    | false =>
    go_wp2_with (first | (go_at_call 24;(with_reducible refine (Nm.calls_args ?same (r07_Right.calls K_ 2 c ⟨#[]⟩ none 0 [] l t _ _ ?side1 ?side2 HRT.out)).mono ?_);(case same=>rfl);(case side1=>exact (Kd.R_reads' HO.out).2.2);(case side2=>exact HLV.out);rintro er w9 ⟨rfl,hb1⟩;have n0_:=As.mk (RfR.below HI.out hb1);have n1_:=As.mk (bS HB.out hb1);have n2_:=As.mk (KeepBut.trans HK.out (KeepBut.of_below hb1 g none) (.inl rfl));have n3_:=As.mk (blk_below BZ.out hb1);have n4_:=As.mk (blk_below BD.out hb1);have n5_:=As.mk (Kd.R_below HO.out hb1);clear HI HB HK BZ BD HO hb1;have HI:=n0_;have HB:=n1_;have HK:=n2_;have BZ:=n3_;have BD:=n4_;have HO:=n5_;clear n0_ n1_ n2_ n3_ n4_ n5_;clear hczd_0 hfzd_0 hczd_1 hfzd_1 hczd_2 hfzd_2 hczd_3 hfzd_3 hczd_4 hfzd_4 hczd_5 hfzd_5;clear hczz_0 hfzz_0 hczz_1 hfzz_1 hczz_2 hfzz_2 hczz_3 hfzz_3 hczz_4 hfzz_4 hczz_5 hfzz_5;have hczd_0 : w9.cell? ⟨gd,0,none⟩ = some (.int .i64 2):=(bC BD.out 0).trans rfl;have hczd_1 : w9.cell? ⟨gd,1,none⟩ = some (.string c):=(bC BD.out 1).trans rfl;have hczd_2 : w9.cell? ⟨gd,2,none⟩ = some (.string ⟨#[]⟩):=(bC BD.out 2).trans rfl;have hczd_3 : w9.cell? ⟨gd,3,none⟩ = some (.slice none 0 0):=(bC BD.out 3).trans rfl;have hczd_4 : w9.cell? ⟨gd,4,none⟩ = some (.string l):=(bC BD.out 4).trans rfl;have hczd_5 : w9.cell? ⟨gd,5,none⟩ = some (.string t):=(bC BD.out 5).trans rfl;have hfzd_0:=bF BD.out 0;have hfzd_1:=bF BD.out 1;have hfzd_2:=bF BD.out 2;have hfzd_3:=bF BD.out 3;have hfzd_4:=bF BD.out 4;have hfzd_5:=bF BD.out 5;have hczz_0 : w9.cell? ⟨gz,0,none⟩ = some (.int .i64 0):=(bC BZ.out 0).trans rfl;have hczz_1 : w9.cell? ⟨gz,1,none⟩ = some (.string ⟨#[]⟩):=(bC BZ.out 1).trans rfl;have hczz_2 : w9.cell? ⟨gz,2,none⟩ = some (.string ⟨#[]⟩):=(bC BZ.out 2).trans rfl;have hczz_3 : w9.cell? ⟨gz,3,none⟩ = some (.slice none 0 0):=(bC BZ.out 3).trans rfl;have hczz_4 : w9.cell? ⟨gz,4,none⟩ = some (.string ⟨#[]⟩):=(bC BZ.out 4).trans rfl;have hczz_5 : w9.cell? ⟨gz,5,none⟩ = some (.string ⟨#[]⟩):=(bC BZ.out 5).trans rfl;have hfzz_0:=bF BZ.out 0;have hfzz_1:=bF BZ.out 1;have hfzz_2:=bF BZ.out 2;have hfzz_3:=bF BZ.out 3;have hfzz_4:=bF BZ.out 4;have hfzz_5:=bF BZ.out 5))
    (try simp only [Exit.inBlock,Exit.then])
    refine bodyPost_ret (v:=.tuple #[.agg #[.int .i64 0,.string ⟨#[]⟩,.string ⟨#[]⟩,.slice none 0 0,.string ⟨#[]⟩,.string ⟨#[]⟩],.int .i64 31]) ?_ rfl ?_
    ·rw [results_cell_tmp rfl]
     go_simp
    rw [QR.out,finR_not Z1.out HDR.out]
    exact ⟨_,rfl,Kd.R_nil _ _ _ _ _,(by repeat (first | (with_reducible first | exact HI.out | apply RfR.drew | refine RfR.far ?_ HNZ.out _) | exact HI.out)),(by repeat (first | (with_reducible first | exact HB.out | apply bD | refine bT ?_ HZ0.out) | exact HB.out)),(by repeat (first | (with_reducible first | exact HK.out | refine keep_far ?_ HZW.out _ | apply keep_drew) | exact HK.out))⟩
    | true =>
    go_wp2_with (first | (go_at_call 24;(with_reducible refine (Nm.calls_args ?same (r07_Right.calls K_ 2 c ⟨#[]⟩ none 0 [] l t _ _ ?side1 ?side2 HRT.out)).mono ?_);(case same=>rfl);(case side1=>exact (Kd.R_reads' HO.out).2.2);(case side2=>exact HLV.out);rintro er w9 ⟨rfl,hb1⟩;have n0_:=As.mk (RfR.below HI.out hb1);have n1_:=As.mk (bS HB.out hb1);have n2_:=As.mk (KeepBut.trans HK.out (KeepBut.of_below hb1 g none) (.inl rfl));have n3_:=As.mk (blk_below BZ.out hb1);have n4_:=As.mk (blk_below BD.out hb1);have n5_:=As.mk (Kd.R_below HO.out hb1);clear HI HB HK BZ BD HO hb1;have HI:=n0_;have HB:=n1_;have HK:=n2_;have BZ:=n3_;have BD:=n4_;have HO:=n5_;clear n0_ n1_ n2_ n3_ n4_ n5_;clear hczd_0 hfzd_0 hczd_1 hfzd_1 hczd_2 hfzd_2 hczd_3 hfzd_3 hczd_4 hfzd_4 hczd_5 hfzd_5;clear hczz_0 hfzz_0 hczz_1 hfzz_1 hczz_2 hfzz_2 hczz_3 hfzz_3 hczz_4 hfzz_4 hczz_5 hfzz_5;have hczd_0 : w9.cell? ⟨gd,0,none⟩ = some (.int .i64 2):=(bC BD.out 0).trans rfl;have hczd_1 : w9.cell? ⟨gd,1,none⟩ = some (.string c):=(bC BD.out 1).trans rfl;have hczd_2 : w9.cell? ⟨gd,2,none⟩ = some (.string ⟨#[]⟩):=(bC BD.out 2).trans rfl;have hczd_3 : w9.cell? ⟨gd,3,none⟩ = some (.slice none 0 0):=(bC BD.out 3).trans rfl;have hczd_4 : w9.cell? ⟨gd,4,none⟩ = some (.string l):=(bC BD.out 4).trans rfl;have hczd_5 : w9.cell? ⟨gd,5,none⟩ = some (.string t):=(bC BD.out 5).trans rfl;have hfzd_0:=bF BD.out 0;have hfzd_1:=bF BD.out 1;have hfzd_2:=bF BD.out 2;have hfzd_3:=bF BD.out 3;have hfzd_4:=bF BD.out 4;have hfzd_5:=bF BD.out 5;have hczz_0 : w9.cell? ⟨gz,0,none⟩ = some (.int .i64 0):=(bC BZ.out 0).trans rfl;have hczz_1 : w9.cell? ⟨gz,1,none⟩ = some (.string ⟨#[]⟩):=(bC BZ.out 1).trans rfl;have hczz_2 : w9.cell? ⟨gz,2,none⟩ = some (.string ⟨#[]⟩):=(bC BZ.out 2).trans rfl;have hczz_3 : w9.cell? ⟨gz,3,none⟩ = some (.slice none 0 0):=(bC BZ.out 3).trans rfl;have hczz_4 : w9.cell? ⟨gz,4,none⟩ = some (.string ⟨#[]⟩):=(bC BZ.out 4).trans rfl;have hczz_5 : w9.cell? ⟨gz,5,none⟩ = some (.string ⟨#[]⟩):=(bC BZ.out 5).trans rfl;have hfzz_0:=bF BZ.out 0;have hfzz_1:=bF BZ.out 1;have hfzz_2:=bF BZ.out 2;have hfzz_3:=bF BZ.out 3;have hfzz_4:=bF BZ.out 4;have hfzz_5:=bF BZ.out 5))
    (try simp only [Exit.inBlock,Exit.then])
    refine bodyPost_ret (v:=.tuple #[.agg #[.int .i64 2,.string c,.string ⟨#[]⟩,.slice none 0 0,.string l,.string t],.int .i64 0]) ?_ rfl ?_
    ·rw [results_cell_tmp rfl]
     go_simp
    rw [QR.out,finR_good Z1.out HDR.out]
    exact ⟨_,rfl,Kd.R_mono (by repeat (first | (with_reducible first | exact HO.out) | refine Kd.R_far (ok:=fun k=>gd < k) ?_ (fun k hk=>by show k ≠ gz;have h_ : gd < k:=hk;have:=HZLT.out;omega) _ | exact HO.out)) (fun k hk=>by have:=HDW.out;have hk2 : gd < k:=hk;omega),(by repeat (first | (with_reducible first | exact HI.out | apply RfR.drew | refine RfR.far ?_ HNZ.out _) | exact HI.out)),(by repeat (first | (with_reducible first | exact HB.out | apply bD | refine bT ?_ HZ0.out) | exact HB.out)),(by repeat (first | (with_reducible first | exact HK.out | refine keep_far ?_ HZW.out _ | apply keep_drew) | exact HK.out))⟩
   ·have z1a : (e4 != 0) = true:=bne_iff_ne.mpr z1
    have z1b : (e4 == 0) = false:=beq_eq_false_iff_ne.mpr z1
    go_upto_region 11 with (fail)
    refine start_ (n:=7) (S:=fun w'=>w'.cell? ⟨g,1,none⟩ = some (.int .i64 e4)) (ds:=[]) #[false,false,false,false,false,false,false] (by kernel_rfl) rfl rfl hczr_1 (fun hHeld=>?_);refine with_tabW refread.tab11 refread.bits11 (fun HT_ HW_=>?_)
    refine pure_ (i:=0) (N:=some 37) (v:=?_) (a':=?_) #[true,false,false,false,false,false,false] rfl rfl (any_of HT_.out (by kernel_rfl)) (fun _ _ _ h=>h) (Or.inl ⟨by rfl,?_⟩) ?_ ?_
    rotate_left
    ·intro w'
     go_simp
     with_reducible rfl
    rotate_left
    ·simp only [Act.put,List.setIfInBounds_toArray,List.set_cons_zero,List.set_cons_succ,i64_w,i32_w]
     rfl
    refine pure_ (i:=1) (N:=some 38) (v:=?_) (a':=?_) #[true,true,false,false,false,false,false] rfl rfl (any_of HT_.out (by kernel_rfl)) (fun _ _ _ h=>h) (Or.inl ⟨by rfl,?_⟩) ?_ ?_
    rotate_left
    ·intro w'
     go_simp
     with_reducible rfl
    rotate_left
    ·simp only [Act.put,List.setIfInBounds_toArray,List.set_cons_zero,List.set_cons_succ,i64_w,i32_w]
     rfl
    refine pure_ (i:=2) (N:=some 39) (v:=?_) (a':=?_) #[true,true,true,false,false,false,false] rfl rfl (any_of HT_.out (by kernel_rfl)) (fun _ _ _ h=>h) (Or.inl ⟨by rfl,?_⟩) ?_ ?_
    rotate_left
    ·intro w'
     go_simp
     with_reducible rfl
    rotate_left
    ·simp only [Act.put,List.setIfInBounds_toArray,List.set_cons_zero,List.set_cons_succ,i64_w,i32_w]
     rfl
    refine pure_ (i:=3) (N:=some 40) (v:=?_) (a':=?_) #[true,true,true,true,false,false,false] rfl rfl (any_of HT_.out (by kernel_rfl)) (fun _ _ _ h=>h) (Or.inl ⟨by rfl,?_⟩) ?_ ?_
    rotate_left
    ·intro w'
     go_simp
     with_reducible rfl
    rotate_left
    ·simp only [Act.put,List.setIfInBounds_toArray,List.set_cons_zero,List.set_cons_succ,i64_w,i32_w]
     rfl
    refine take_ (i:=4) (N:=some 41) (v:=?_) (a':=?_) #[true,true,true,true,true,false,false] rfl rfl (take_ofW HT_.out HW_.out (by kernel_rfl)) (fun _ _ _ h=>h) (Or.inl ⟨by rfl,?_⟩) hHeld ?_ ?_
    rotate_left
    ·rintro w' s0
     go_simp
     with_reducible rfl
    rotate_left
    ·simp only [Act.put,List.setIfInBounds_toArray,List.set_cons_zero,List.set_cons_succ,i64_w,i32_w]
     rfl
    refine one_ (i:=5) (N:=none) #[true,true,true,true,true,true,false] rfl rfl (one_of HT_.out (by kernel_rfl)) (by decide) (fun K hK=>?_)
    refine skip_ (w1:=?_) (by rfl) rfl ?_ ?_
    rotate_left
    ·go_simp
     rfl
    refine hK.out _ _ ((bC (RfR.drew (RfR.far (p:=⟨gz,5,none⟩) (RfR.far (p:=⟨gz,4,none⟩) (RfR.far (p:=⟨gz,3,none⟩) (RfR.far (p:=⟨gz,2,none⟩) (RfR.far (p:=⟨gz,1,none⟩) (RfR.far (p:=⟨gz,0,none⟩) HI.out HNZ.out (.int .i64 0)) HNZ.out (.string ⟨#[]⟩)) HNZ.out (.string ⟨#[]⟩)) HNZ.out (.slice none 0 0)) HNZ.out (.string ⟨#[]⟩)) HNZ.out (.string ⟨#[]⟩))).1 1).trans rfl) (fun hHeld=>?_)
    clear hK K
    refine pure_ (i:=6) (N:=some 3) (v:=?_) (a':=?_) #[true,true,true,true,true,true,true] rfl rfl (any_of HT_.out (by kernel_rfl)) (fun _ _ _ h=>h) (Or.inl ⟨by rfl,?_⟩) ?_ ?_
    rotate_left
    ·intro w'
     go_simp
     with_reducible rfl
    rotate_left
    ·simp only [Act.put,List.setIfInBounds_toArray,List.set_cons_zero,List.set_cons_succ,i64_w,i32_w]
     rfl
    refine done_ (done_of HT_.out (by kernel_rfl)) ?_
    try go_wp2_with (fail)
    (try simp only [Exit.inBlock,Exit.then])
    refine bodyPost_ret (v:=.tuple #[.agg #[.int .i64 0,.string ⟨#[]⟩,.string ⟨#[]⟩,.slice none 0 0,.string ⟨#[]⟩,.string ⟨#[]⟩],.int .i64 e4]) ?_ rfl ?_
    ·rw [results_cell_tmp rfl]
     go_simp
    rw [QR.out,finR_err z1]
    exact ⟨_,rfl,Kd.R_nil _ _ _ _ _,(by repeat (first | (with_reducible first | exact HI.out | apply RfR.drew | refine RfR.far ?_ HNZ.out _) | exact HI.out)),(by repeat (first | (with_reducible first | exact HB.out | apply bD | refine bT ?_ HZ0.out) | exact HB.out)),(by repeat (first | (with_reducible first | exact HK.out | refine keep_far ?_ HZW.out _ | apply keep_drew) | exact HK.out))⟩
  ·have k2a : (kd == 2) = false:=beq_eq_false_iff_ne.mpr k2
   have HSZ:=As.mk (show (⟨#[]⟩ : ByteArray).size ≤ 100000 ∧ (⟨#[]⟩ : ByteArray).size ≤ 100000 ∧ ([] : List ByteArray).length ≤ 1000000 ∧ (⟨#[]⟩ : ByteArray).size ≤ 100000 ∧ ∀ x ∈ ([] : List ByteArray),x.size ≤ 100000 from ⟨Nat.zero_le _,Nat.zero_le _,Nat.zero_le _,Nat.zero_le _,fun x hx=>by cases hx⟩)
   have QR:=As.mk (readR_else hq.out k1 k2)
   clear k1 k2
   have HO:=As.mk (Kd.R_nil Kd.string 9 wd w0.heap.size (fun k=>gd < k))
   have HLV:=As.mk (show ([] : List ByteArray).length ≤ 0 from Nat.le_refl _)
   have hczd_0 : wd.cell? ⟨gd,0,none⟩ = some (.int .i64 kd):=(bC BD.out 0).trans rfl;have hczd_1 : wd.cell? ⟨gd,1,none⟩ = some (.string ⟨#[]⟩):=(bC BD.out 1).trans rfl;have hczd_2 : wd.cell? ⟨gd,2,none⟩ = some (.string ⟨#[]⟩):=(bC BD.out 2).trans rfl;have hczd_3 : wd.cell? ⟨gd,3,none⟩ = some (.slice none 0 0):=(bC BD.out 3).trans rfl;have hczd_4 : wd.cell? ⟨gd,4,none⟩ = some (.string ⟨#[]⟩):=(bC BD.out 4).trans rfl;have hczd_5 : wd.cell? ⟨gd,5,none⟩ = some (.string ⟨#[]⟩):=(bC BD.out 5).trans rfl;have hfzd_0:=bF BD.out 0;have hfzd_1:=bF BD.out 1;have hfzd_2:=bF BD.out 2;have hfzd_3:=bF BD.out 3;have hfzd_4:=bF BD.out 4;have hfzd_5:=bF BD.out 5
   have hczz_0 : wd.cell? ⟨gz,0,none⟩ = some (.int .i64 0):=(bC BZ.out 0).trans rfl;have hczz_1 : wd.cell? ⟨gz,1,none⟩ = some (.string ⟨#[]⟩):=(bC BZ.out 1).trans rfl;have hczz_2 : wd.cell? ⟨gz,2,none⟩ = some (.string ⟨#[]⟩):=(bC BZ.out 2).trans rfl;have hczz_3 : wd.cell? ⟨gz,3,none⟩ = some (.slice none 0 0):=(bC BZ.out 3).trans rfl;have hczz_4 : wd.cell? ⟨gz,4,none⟩ = some (.string ⟨#[]⟩):=(bC BZ.out 4).trans rfl;have hczz_5 : wd.cell? ⟨gz,5,none⟩ = some (.string ⟨#[]⟩):=(bC BZ.out 5).trans rfl;have hfzz_0:=bF BZ.out 0;have hfzz_1:=bF BZ.out 1;have hfzz_2:=bF BZ.out 2;have hfzz_3:=bF BZ.out 3;have hfzz_4:=bF BZ.out 4;have hfzz_5:=bF BZ.out 5
   have hczr_0 : wd.cell? ⟨g,0,none⟩ = some (.string (strOfNums b1)):=(bC HI.out.1 0).trans rfl;have hczr_1 : wd.cell? ⟨g,1,none⟩ = some (.int .i64 e1):=(bC HI.out.1 1).trans rfl;have hfzr_0:=bF HI.out.1 0;have hfzr_1:=bF HI.out.1 1;have hngz:=HNZ.out;have hngy:=HNZ.out.symm
   have HZLT:=As.mk (show gz < gd by have:=HZL.out;omega)
   by_cases z1 : e1 = 0
   ·have z1a : (e1 != 0) = false:=bne_eq_false_iff_eq.mpr z1
    have z1b : (e1 == 0) = true:=beq_iff_eq.mpr z1
    obtain ⟨K_,hRT⟩:=ev_out (refRight_val kd ⟨#[]⟩ ⟨#[]⟩ [] ⟨#[]⟩ ⟨#[]⟩ (by have:=HSZ.out.2.2.1;omega) (fun x hx=>by have:=HSZ.out.2.2.2.2 x hx;omega) (by have:=HSZ.out.1;omega) (by have:=HSZ.out.2.1;omega) (by have:=HSZ.out.2.2.2.1;omega))
    have hRT:=hRT K_ (Nat.le_refl _)
    have hdr : DV.right ⟨kd,⟨#[]⟩,⟨#[]⟩,[],⟨#[]⟩,⟨#[]⟩⟩ = rightD kd ⟨#[]⟩ ⟨#[]⟩ [] ⟨#[]⟩ ⟨#[]⟩:=rfl
    obtain ⟨rb,hrb⟩ : ∃ rb,rightD kd ⟨#[]⟩ ⟨#[]⟩ [] ⟨#[]⟩ ⟨#[]⟩ = rb:=⟨_,rfl⟩
    rw [hrb] at hRT hdr
    have HRT:=As.mk hRT
    have HDR:=As.mk hdr
    have Z1:=As.mk z1
    clear hRT hdr hrb z1
    cases rb with
    | false =>
    go_wp2_with (first | (go_at_call 24;(with_reducible refine (Nm.calls_args ?same (r07_Right.calls K_ kd ⟨#[]⟩ ⟨#[]⟩ none 0 [] ⟨#[]⟩ ⟨#[]⟩ _ _ ?side1 ?side2 HRT.out)).mono ?_);(case same=>rfl);(case side1=>exact (Kd.R_reads' HO.out).2.2);(case side2=>exact HLV.out);rintro er w9 ⟨rfl,hb1⟩;have n0_:=As.mk (RfR.below HI.out hb1);have n1_:=As.mk (bS HB.out hb1);have n2_:=As.mk (KeepBut.trans HK.out (KeepBut.of_below hb1 g none) (.inl rfl));have n3_:=As.mk (blk_below BZ.out hb1);have n4_:=As.mk (blk_below BD.out hb1);have n5_:=As.mk (Kd.R_below HO.out hb1);clear HI HB HK BZ BD HO hb1;have HI:=n0_;have HB:=n1_;have HK:=n2_;have BZ:=n3_;have BD:=n4_;have HO:=n5_;clear n0_ n1_ n2_ n3_ n4_ n5_;clear hczd_0 hfzd_0 hczd_1 hfzd_1 hczd_2 hfzd_2 hczd_3 hfzd_3 hczd_4 hfzd_4 hczd_5 hfzd_5;clear hczz_0 hfzz_0 hczz_1 hfzz_1 hczz_2 hfzz_2 hczz_3 hfzz_3 hczz_4 hfzz_4 hczz_5 hfzz_5;have hczd_0 : w9.cell? ⟨gd,0,none⟩ = some (.int .i64 kd):=(bC BD.out 0).trans rfl;have hczd_1 : w9.cell? ⟨gd,1,none⟩ = some (.string ⟨#[]⟩):=(bC BD.out 1).trans rfl;have hczd_2 : w9.cell? ⟨gd,2,none⟩ = some (.string ⟨#[]⟩):=(bC BD.out 2).trans rfl;have hczd_3 : w9.cell? ⟨gd,3,none⟩ = some (.slice none 0 0):=(bC BD.out 3).trans rfl;have hczd_4 : w9.cell? ⟨gd,4,none⟩ = some (.string ⟨#[]⟩):=(bC BD.out 4).trans rfl;have hczd_5 : w9.cell? ⟨gd,5,none⟩ = some (.string ⟨#[]⟩):=(bC BD.out 5).trans rfl;have hfzd_0:=bF BD.out 0;have hfzd_1:=bF BD.out 1;have hfzd_2:=bF BD.out 2;have hfzd_3:=bF BD.out 3;have hfzd_4:=bF BD.out 4;have hfzd_5:=bF BD.out 5;have hczz_0 : w9.cell? ⟨gz,0,none⟩ = some (.int .i64 0):=(bC BZ.out 0).trans rfl;have hczz_1 : w9.cell? ⟨gz,1,none⟩ = some (.string ⟨#[]⟩):=(bC BZ.out 1).trans rfl;have hczz_2 : w9.cell? ⟨gz,2,none⟩ = some (.string ⟨#[]⟩):=(bC BZ.out 2).trans rfl;have hczz_3 : w9.cell? ⟨gz,3,none⟩ = some (.slice none 0 0):=(bC BZ.out 3).trans rfl;have hczz_4 : w9.cell? ⟨gz,4,none⟩ = some (.string ⟨#[]⟩):=(bC BZ.out 4).trans rfl;have hczz_5 : w9.cell? ⟨gz,5,none⟩ = some (.string ⟨#[]⟩):=(bC BZ.out 5).trans rfl;have hfzz_0:=bF BZ.out 0;have hfzz_1:=bF BZ.out 1;have hfzz_2:=bF BZ.out 2;have hfzz_3:=bF BZ.out 3;have hfzz_4:=bF BZ.out 4;have hfzz_5:=bF BZ.out 5))
    (try simp only [Exit.inBlock,Exit.then])
    refine bodyPost_ret (v:=.tuple #[.agg #[.int .i64 0,.string ⟨#[]⟩,.string ⟨#[]⟩,.slice none 0 0,.string ⟨#[]⟩,.string ⟨#[]⟩],.int .i64 31]) ?_ rfl ?_
    ·rw [results_cell_tmp rfl]
     go_simp
    rw [QR.out,finR_not Z1.out HDR.out]
    exact ⟨_,rfl,Kd.R_nil _ _ _ _ _,(by repeat (first | (with_reducible first | exact HI.out | apply RfR.drew | refine RfR.far ?_ HNZ.out _) | exact HI.out)),(by repeat (first | (with_reducible first | exact HB.out | apply bD | refine bT ?_ HZ0.out) | exact HB.out)),(by repeat (first | (with_reducible first | exact HK.out | refine keep_far ?_ HZW.out _ | apply keep_drew) | exact HK.out))⟩
    | true =>
    go_wp2_with (first | (go_at_call 24;(with_reducible refine (Nm.calls_args ?same (r07_Right.calls K_ kd ⟨#[]⟩ ⟨#[]⟩ none 0 [] ⟨#[]⟩ ⟨#[]⟩ _ _ ?side1 ?side2 HRT.out)).mono ?_);(case same=>rfl);(case side1=>exact (Kd.R_reads' HO.out).2.2);(case side2=>exact HLV.out);rintro er w9 ⟨rfl,hb1⟩;have n0_:=As.mk (RfR.below HI.out hb1);have n1_:=As.mk (bS HB.out hb1);have n2_:=As.mk (KeepBut.trans HK.out (KeepBut.of_below hb1 g none) (.inl rfl));have n3_:=As.mk (blk_below BZ.out hb1);have n4_:=As.mk (blk_below BD.out hb1);have n5_:=As.mk (Kd.R_below HO.out hb1);clear HI HB HK BZ BD HO hb1;have HI:=n0_;have HB:=n1_;have HK:=n2_;have BZ:=n3_;have BD:=n4_;have HO:=n5_;clear n0_ n1_ n2_ n3_ n4_ n5_;clear hczd_0 hfzd_0 hczd_1 hfzd_1 hczd_2 hfzd_2 hczd_3 hfzd_3 hczd_4 hfzd_4 hczd_5 hfzd_5;clear hczz_0 hfzz_0 hczz_1 hfzz_1 hczz_2 hfzz_2 hczz_3 hfzz_3 hczz_4 hfzz_4 hczz_5 hfzz_5;have hczd_0 : w9.cell? ⟨gd,0,none⟩ = some (.int .i64 kd):=(bC BD.out 0).trans rfl;have hczd_1 : w9.cell? ⟨gd,1,none⟩ = some (.string ⟨#[]⟩):=(bC BD.out 1).trans rfl;have hczd_2 : w9.cell? ⟨gd,2,none⟩ = some (.string ⟨#[]⟩):=(bC BD.out 2).trans rfl;have hczd_3 : w9.cell? ⟨gd,3,none⟩ = some (.slice none 0 0):=(bC BD.out 3).trans rfl;have hczd_4 : w9.cell? ⟨gd,4,none⟩ = some (.string ⟨#[]⟩):=(bC BD.out 4).trans rfl;have hczd_5 : w9.cell? ⟨gd,5,none⟩ = some (.string ⟨#[]⟩):=(bC BD.out 5).trans rfl;have hfzd_0:=bF BD.out 0;have hfzd_1:=bF BD.out 1;have hfzd_2:=bF BD.out 2;have hfzd_3:=bF BD.out 3;have hfzd_4:=bF BD.out 4;have hfzd_5:=bF BD.out 5;have hczz_0 : w9.cell? ⟨gz,0,none⟩ = some (.int .i64 0):=(bC BZ.out 0).trans rfl;have hczz_1 : w9.cell? ⟨gz,1,none⟩ = some (.string ⟨#[]⟩):=(bC BZ.out 1).trans rfl;have hczz_2 : w9.cell? ⟨gz,2,none⟩ = some (.string ⟨#[]⟩):=(bC BZ.out 2).trans rfl;have hczz_3 : w9.cell? ⟨gz,3,none⟩ = some (.slice none 0 0):=(bC BZ.out 3).trans rfl;have hczz_4 : w9.cell? ⟨gz,4,none⟩ = some (.string ⟨#[]⟩):=(bC BZ.out 4).trans rfl;have hczz_5 : w9.cell? ⟨gz,5,none⟩ = some (.string ⟨#[]⟩):=(bC BZ.out 5).trans rfl;have hfzz_0:=bF BZ.out 0;have hfzz_1:=bF BZ.out 1;have hfzz_2:=bF BZ.out 2;have hfzz_3:=bF BZ.out 3;have hfzz_4:=bF BZ.out 4;have hfzz_5:=bF BZ.out 5))
    (try simp only [Exit.inBlock,Exit.then])
    refine bodyPost_ret (v:=.tuple #[.agg #[.int .i64 kd,.string ⟨#[]⟩,.string ⟨#[]⟩,.slice none 0 0,.string ⟨#[]⟩,.string ⟨#[]⟩],.int .i64 0]) ?_ rfl ?_
    ·rw [results_cell_tmp rfl]
     go_simp
    rw [QR.out,finR_good Z1.out HDR.out]
    exact ⟨_,rfl,Kd.R_mono (by repeat (first | (with_reducible first | exact HO.out) | refine Kd.R_far (ok:=fun k=>gd < k) ?_ (fun k hk=>by show k ≠ gz;have h_ : gd < k:=hk;have:=HZLT.out;omega) _ | exact HO.out)) (fun k hk=>by have:=HDW.out;have hk2 : gd < k:=hk;omega),(by repeat (first | (with_reducible first | exact HI.out | apply RfR.drew | refine RfR.far ?_ HNZ.out _) | exact HI.out)),(by repeat (first | (with_reducible first | exact HB.out | apply bD | refine bT ?_ HZ0.out) | exact HB.out)),(by repeat (first | (with_reducible first | exact HK.out | refine keep_far ?_ HZW.out _ | apply keep_drew) | exact HK.out))⟩
   ·have z1a : (e1 != 0) = true:=bne_iff_ne.mpr z1
    have z1b : (e1 == 0) = false:=beq_eq_false_iff_ne.mpr z1
    go_upto_region 11 with (fail)
    refine start_ (n:=7) (S:=fun w'=>w'.cell? ⟨g,1,none⟩ = some (.int .i64 e1)) (ds:=[]) #[false,false,false,false,false,false,false] (by kernel_rfl) rfl rfl hczr_1 (fun hHeld=>?_);refine with_tabW refread.tab11 refread.bits11 (fun HT_ HW_=>?_)
    refine pure_ (i:=0) (N:=some 37) (v:=?_) (a':=?_) #[true,false,false,false,false,false,false] rfl rfl (any_of HT_.out (by kernel_rfl)) (fun _ _ _ h=>h) (Or.inl ⟨by rfl,?_⟩) ?_ ?_
    rotate_left
    ·intro w'
     go_simp
     with_reducible rfl
    rotate_left
    ·simp only [Act.put,List.setIfInBounds_toArray,List.set_cons_zero,List.set_cons_succ,i64_w,i32_w]
     rfl
    refine pure_ (i:=1) (N:=some 38) (v:=?_) (a':=?_) #[true,true,false,false,false,false,false] rfl rfl (any_of HT_.out (by kernel_rfl)) (fun _ _ _ h=>h) (Or.inl ⟨by rfl,?_⟩) ?_ ?_
    rotate_left
    ·intro w'
     go_simp
     with_reducible rfl
    rotate_left
    ·simp only [Act.put,List.setIfInBounds_toArray,List.set_cons_zero,List.set_cons_succ,i64_w,i32_w]
     rfl
    refine pure_ (i:=2) (N:=some 39) (v:=?_) (a':=?_) #[true,true,true,false,false,false,false] rfl rfl (any_of HT_.out (by kernel_rfl)) (fun _ _ _ h=>h) (Or.inl ⟨by rfl,?_⟩) ?_ ?_
    rotate_left
    ·intro w'
     go_simp
     with_reducible rfl
    rotate_left
    ·simp only [Act.put,List.setIfInBounds_toArray,List.set_cons_zero,List.set_cons_succ,i64_w,i32_w]
     rfl
    refine pure_ (i:=3) (N:=some 40) (v:=?_) (a':=?_) #[true,true,true,true,false,false,false] rfl rfl (any_of HT_.out (by kernel_rfl)) (fun _ _ _ h=>h) (Or.inl ⟨by rfl,?_⟩) ?_ ?_
    rotate_left
    ·intro w'
     go_simp
     with_reducible rfl
    rotate_left
    ·simp only [Act.put,List.setIfInBounds_toArray,List.set_cons_zero,List.set_cons_succ,i64_w,i32_w]
     rfl
    refine take_ (i:=4) (N:=some 41) (v:=?_) (a':=?_) #[true,true,true,true,true,false,false] rfl rfl (take_ofW HT_.out HW_.out (by kernel_rfl)) (fun _ _ _ h=>h) (Or.inl ⟨by rfl,?_⟩) hHeld ?_ ?_
    rotate_left
    ·rintro w' s0
     go_simp
     with_reducible rfl
    rotate_left
    ·simp only [Act.put,List.setIfInBounds_toArray,List.set_cons_zero,List.set_cons_succ,i64_w,i32_w]
     rfl
    refine one_ (i:=5) (N:=none) #[true,true,true,true,true,true,false] rfl rfl (one_of HT_.out (by kernel_rfl)) (by decide) (fun K hK=>?_)
    refine skip_ (w1:=?_) (by rfl) rfl ?_ ?_
    rotate_left
    ·go_simp
     rfl
    refine hK.out _ _ ((bC (RfR.drew (RfR.far (p:=⟨gz,5,none⟩) (RfR.far (p:=⟨gz,4,none⟩) (RfR.far (p:=⟨gz,3,none⟩) (RfR.far (p:=⟨gz,2,none⟩) (RfR.far (p:=⟨gz,1,none⟩) (RfR.far (p:=⟨gz,0,none⟩) HI.out HNZ.out (.int .i64 0)) HNZ.out (.string ⟨#[]⟩)) HNZ.out (.string ⟨#[]⟩)) HNZ.out (.slice none 0 0)) HNZ.out (.string ⟨#[]⟩)) HNZ.out (.string ⟨#[]⟩))).1 1).trans rfl) (fun hHeld=>?_)
    clear hK K
    refine pure_ (i:=6) (N:=some 3) (v:=?_) (a':=?_) #[true,true,true,true,true,true,true] rfl rfl (any_of HT_.out (by kernel_rfl)) (fun _ _ _ h=>h) (Or.inl ⟨by rfl,?_⟩) ?_ ?_
    rotate_left
    ·intro w'
     go_simp
     with_reducible rfl
    rotate_left
    ·simp only [Act.put,List.setIfInBounds_toArray,List.set_cons_zero,List.set_cons_succ,i64_w,i32_w]
     rfl
    refine done_ (done_of HT_.out (by kernel_rfl)) ?_
    try go_wp2_with (fail)
    (try simp only [Exit.inBlock,Exit.then])
    refine bodyPost_ret (v:=.tuple #[.agg #[.int .i64 0,.string ⟨#[]⟩,.string ⟨#[]⟩,.slice none 0 0,.string ⟨#[]⟩,.string ⟨#[]⟩],.int .i64 e1]) ?_ rfl ?_
    ·rw [results_cell_tmp rfl]
     go_simp
    rw [QR.out,finR_err z1]
    exact ⟨_,rfl,Kd.R_nil _ _ _ _ _,(by repeat (first | (with_reducible first | exact HI.out | apply RfR.drew | refine RfR.far ?_ HNZ.out _) | exact HI.out)),(by repeat (first | (with_reducible first | exact HB.out | apply bD | refine bT ?_ HZ0.out) | exact HB.out)),(by repeat (first | (with_reducible first | exact HK.out | refine keep_far ?_ HZW.out _ | apply keep_drew) | exact HK.out))⟩
end Go.Proofs.YtmlebgikdegjjaaGreatDoor.Hd
