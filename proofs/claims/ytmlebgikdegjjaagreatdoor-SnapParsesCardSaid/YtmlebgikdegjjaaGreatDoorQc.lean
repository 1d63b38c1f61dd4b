/- A definition, read: the program's and the reference's. -/
import Derived.Test.YtmlebgikdegjjaaGreatDoorQb
import Derived.Test.YtmlebgikdegjjaaGreatDoorPs
import Derived.Laws.ResultCell
set_option maxHeartbeats 16000000
set_option maxRecDepth 100000
namespace Go.Proofs.YtmlebgikdegjjaaGreatDoor.Hd
open Go.RowKit Go.Proofs.YtmlebgikdegjjaaGreatDoorW.PrintWords Go.Proofs.YtmlebgikdegjjaaGreatDoorW.PrintLast Go.Proofs.YtmlebgikdegjjaaGreatDoorW.PrintMore Go.Proofs.YtmlebgikdegjjaaGreatDoor.PAll
attribute [local go_sem] max2_int min2_int max_two min_two max_three min_three max_four min_four
set_option linter.unusedVariables false
set_option linter.unusedSimpArgs false
/-- A definition's parts. -/
structure DV where
 kd : Int
 c : ByteArray
 s : ByteArray
 v : List ByteArray
 l : ByteArray
 t : ByteArray
def DV.zero : DV:=⟨0,⟨#[]⟩,⟨#[]⟩,[],⟨#[]⟩,⟨#[]⟩⟩
def DV.right (d : DV) : Bool:=rightD d.kd d.c d.s d.v d.l d.t
def finR (d : DV) (b : List Int) (e : Int) : DV × Int × List Int × Int :=
 if e ≠ 0 then (DV.zero,e,b,e) else if d.right = true then (d,0,b,e) else (DV.zero,31,b,e)
def readR (bs : List Int) (e : Int) : DV × Int × List Int × Int :=
 if (numR bs e).1 = 1 then
  finR ⟨1,(textR (numR bs e).2.1 (numR bs e).2.2).1,(textR (textR (numR bs e).2.1 (numR bs e).2.2).2.1 (textR (numR bs e).2.1 (numR bs e).2.2).2.2).1,
    (textsR (textR (textR (numR bs e).2.1 (numR bs e).2.2).2.1 (textR (numR bs e).2.1 (numR bs e).2.2).2.2).2.1 (textR (textR (numR bs e).2.1 (numR bs e).2.2).2.1 (textR (numR bs e).2.1 (numR bs e).2.2).2.2).2.2).1,⟨#[]⟩,⟨#[]⟩⟩
   (textsR (textR (textR (numR bs e).2.1 (numR bs e).2.2).2.1 (textR (numR bs e).2.1 (numR bs e).2.2).2.2).2.1 (textR (textR (numR bs e).2.1 (numR bs e).2.2).2.1 (textR (numR bs e).2.1 (numR bs e).2.2).2.2).2.2).2.1
   (textsR (textR (textR (numR bs e).2.1 (numR bs e).2.2).2.1 (textR (numR bs e).2.1 (numR bs e).2.2).2.2).2.1 (textR (textR (numR bs e).2.1 (numR bs e).2.2).2.1 (textR (numR bs e).2.1 (numR bs e).2.2).2.2).2.2).2.2
 else if (numR bs e).1 = 2 then
  finR ⟨2,(textR (numR bs e).2.1 (numR bs e).2.2).1,⟨#[]⟩,[],(textR (textR (numR bs e).2.1 (numR bs e).2.2).2.1 (textR (numR bs e).2.1 (numR bs e).2.2).2.2).1,
    (textR (textR (textR (numR bs e).2.1 (numR bs e).2.2).2.1 (textR (numR bs e).2.1 (numR bs e).2.2).2.2).2.1 (textR (textR (numR bs e).2.1 (numR bs e).2.2).2.1 (textR (numR bs e).2.1 (numR bs e).2.2).2.2).2.2).1⟩
   (textR (textR (textR (numR bs e).2.1 (numR bs e).2.2).2.1 (textR (numR bs e).2.1 (numR bs e).2.2).2.2).2.1 (textR (textR (numR bs e).2.1 (numR bs e).2.2).2.1 (textR (numR bs e).2.1 (numR bs e).2.2).2.2).2.2).2.1
   (textR (textR (textR (numR bs e).2.1 (numR bs e).2.2).2.1 (textR (numR bs e).2.1 (numR bs e).2.2).2.2).2.1 (textR (textR (numR bs e).2.1 (numR bs e).2.2).2.1 (textR (numR bs e).2.1 (numR bs e).2.2).2.2).2.2).2.2
 else finR ⟨(numR bs e).1,⟨#[]⟩,⟨#[]⟩,[],⟨#[]⟩,⟨#[]⟩⟩ (numR bs e).2.1 (numR bs e).2.2
theorem readR_class {bs b1 b2 b3 b4 : List Int} {e kd e1 e2 e3 e4 : Int} {c s : ByteArray} {v : List ByteArray} (h0 : numR bs e = (kd,b1,e1)) (hk : kd = 1) (h1 : textR b1 e1 = (c,b2,e2)) (h2 : textR b2 e2 = (s,b3,e3)) (h3 : textsR b3 e3 = (v,b4,e4)) :
  readR bs e = finR ⟨1,c,s,v,⟨#[]⟩,⟨#[]⟩⟩ b4 e4:=by
 unfold readR;rw [h0];simp only [];rw [if_pos hk,h1];simp only [];rw [h2];simp only [];rw [h3]
theorem readR_method {bs b1 b2 b3 b4 : List Int} {e kd e1 e2 e3 e4 : Int} {c l t : ByteArray} (h0 : numR bs e = (kd,b1,e1)) (hk : kd = 2) (h1 : textR b1 e1 = (c,b2,e2)) (h2 : textR b2 e2 = (l,b3,e3)) (h3 : textR b3 e3 = (t,b4,e4)) :
  readR bs e = finR ⟨2,c,⟨#[]⟩,[],l,t⟩ b4 e4:=by
 unfold readR;rw [h0];simp only [];rw [if_neg (by omega),if_pos hk,h1];simp only [];rw [h2];simp only [];rw [h3]
theorem readR_else {bs b1 : List Int} {e kd e1 : Int} (h0 : numR bs e = (kd,b1,e1)) (hk : kd ≠ 1) (hk2 : kd ≠ 2) : readR bs e = finR ⟨kd,⟨#[]⟩,⟨#[]⟩,[],⟨#[]⟩,⟨#[]⟩⟩ b1 e1:=by
 unfold readR;rw [h0];simp only [];rw [if_neg hk,if_neg hk2]
theorem finR_err {d : DV} {b : List Int} {e : Int} (h : e ≠ 0) : finR d b e = (DV.zero,e,b,e):=if_pos h
theorem finR_not {d : DV} {b : List Int} {e : Int} (h : e = 0) (hr : d.right = false) : finR d b e = (DV.zero,31,b,e):=by
 unfold finR;rw [if_neg (by omega),if_neg (by rw [hr];decide)]
theorem finR_good {d : DV} {b : List Int} {e : Int} (h : e = 0) (hr : d.right = true) : finR d b e = (d,0,b,e):=by
 unfold finR;rw [if_neg (by omega),if_pos hr]
theorem textR_size {bs : List Int} {e : Int} (hb : BytesOk bs) : (textR bs e).1.size ≤ bs.length:=by
 obtain ⟨n,bs1,e1,hq⟩ : ∃ n bs1 e1,numR bs e = (n,bs1,e1):=⟨_,_,_,rfl⟩
 obtain ⟨f1,f2,f3,f4,f5,f6,f7⟩:=numR_facts hb hq
 by_cases c1 : e1 = 0
 ·by_cases c2 : n > (bs1.length : Int)
  ·rw [textR_short hq c1 c2];exact Nat.zero_le _
  ·rw [textR_good hq c1 (by omega),strOf_size,List.length_take];omega
 ·rw [textR_err hq c1];exact Nat.zero_le _
theorem textsL_facts : ∀ (n : Nat) {bs : List Int},BytesOk bs → BytesOk (textsL n bs).2.1 ∧ (textsL n bs).2.1.length ≤ bs.length ∧ (textsL n bs).1.length ≤ n ∧ ∀ x ∈ (textsL n bs).1,x.size ≤ bs.length
 | 0,bs,h=>⟨h,Nat.le_refl _,Nat.le_refl _,fun x hx=>by cases hx⟩
 | n + 1,bs,h=>by
  have h1:=textR_ok (e:=0) h
  have h2:=textR_size (e:=0) h
  have ih:=textsL_facts n h1.1
  rw [textsL_succ]
  by_cases c : (textR bs 0).2.2 ≠ 0
  ·rw [if_pos c]
   exact ⟨h1.1,h1.2,by simp,fun x hx=>by rw [List.mem_singleton] at hx;subst hx;exact h2⟩
  ·rw [if_neg c]
   refine ⟨ih.1,Nat.le_trans ih.2.1 h1.2,by simp only [List.length_cons];omega,fun x hx=>?_⟩
   rcases List.mem_cons.1 hx with rfl | hx
   ·exact h2
   ·exact Nat.le_trans (ih.2.2.2 x hx) h1.2
theorem textsR_facts {bs : List Int} {e : Int} (hb : BytesOk bs) : BytesOk (textsR bs e).2.1 ∧ (textsR bs e).2.1.length ≤ bs.length ∧ (textsR bs e).1.length ≤ 1000000 ∧ ∀ x ∈ (textsR bs e).1,x.size ≤ bs.length:=by
 obtain ⟨n,bs1,e1,hq⟩ : ∃ n bs1 e1,numR bs e = (n,bs1,e1):=⟨_,_,_,rfl⟩
 obtain ⟨f1,f2,f3,f4,f5,f6,f7⟩:=numR_facts hb hq
 by_cases c1 : e1 = 0
 ·by_cases c2 : n > 1000000 ∨ n > (bs1.length : Int)
  ·rw [textsR_short hq c1 c2];exact ⟨hb,Nat.le_refl _,Nat.zero_le _,fun x hx=>by cases hx⟩
  ·have h:=textsL_facts n.toNat f1
   by_cases c3 : (textsL n.toNat bs1).2.2 ≠ 0
   ·rw [textsR_fell hq c1 c2 c3];exact ⟨hb,Nat.le_refl _,Nat.zero_le _,fun x hx=>by cases hx⟩
   ·rw [textsR_good hq c1 c2 (by omega)]
    exact ⟨h.1,Nat.le_trans h.2.1 f5,by have:=h.2.2.1;show (textsL n.toNat bs1).1.length ≤ 1000000;omega,fun x hx=>Nat.le_trans (h.2.2.2 x hx) f5⟩
 ·rw [textsR_err hq c1];exact ⟨hb,Nat.le_refl _,Nat.zero_le _,fun x hx=>by cases hx⟩
theorem OcR.far {w0 w : World} {g : Nat} {bs : List Int} {e : Int} {p : Addr} (h : OcR w0 w g bs e) (hne : g ≠ p.block) (u : Value) : OcR w0 (w.setCell p u) g bs e:=by
 obtain ⟨Ad,c,h1,h2⟩:=h
 exact ⟨Ad,c,blk_far h1 hne u,h2⟩
theorem read_calls (g : Nat) (bs : List Int) (e : Int) (hb : BytesOk bs) (hm : bs.length ≤ 100000) (w0 w : World) (hI : OcR w0 w g bs e) (hB : Below w0.heap.size w0 w) :
  Calls Tryz.prog 98 #[.pointer (some ⟨g,0,none⟩)] w fun r w'=>∃ vv,r = .returned (.tuple #[.agg #[.int .i64 (readR bs e).1.kd,.string (readR bs e).1.c,.string (readR bs e).1.s,vv,.string (readR bs e).1.l,.string (readR bs e).1.t],.int .i64 (readR bs e).2.1]) ∧ Kd.R Kd.string 9 w' w0.heap.size (fun k=>w.heap.size ≤ k) vv (readR bs e).1.v ∧ OcR w0 w' g (readR bs e).2.2.1 (readR bs e).2.2.2 ∧ Below w0.heap.size w0 w' ∧ KeepBut w w' g none:=by
 have hu31:=Tryz.underlying34
 have HI:=As.mk hI
 have HB:=As.mk hB
 have HK:=As.mk (KeepBut.refl w g none)
 have HM:=As.mk hm
 have HGL:=As.mk hI.lt
 have HBO0:=As.mk hb
 clear hI hB
 obtain ⟨kd,b1,e1,hq0_⟩ : ∃ kd b1 e1,numR bs e = (kd,b1,e1):=⟨_,_,_,rfl⟩
 have hq:=As.mk hq0_
 obtain ⟨f1,f2,f3,f4,f5,f6,f7⟩:=numR_facts hb hq0_
 have HBO1:=As.mk f1
 have HL1:=As.mk f5
 clear hb hm hq0_ f1 f2 f3 f4 f5 f6 f7
 go_enter Tryz.func98,Tryz.ntmps98
 go_upto_region 1 with (fail)
 have x0_:=As.mk (show (w.alloc (Obj.cells #[.int .i64 0,.string ⟨#[]⟩,.string ⟨#[]⟩,.slice none 0 0,.string ⟨#[]⟩,.string ⟨#[]⟩] 34)).heap[w.heap.size]? = some (Obj.cells #[.int .i64 0,.string ⟨#[]⟩,.string ⟨#[]⟩,.slice none 0 0,.string ⟨#[]⟩,.string ⟨#[]⟩] 34) from blk_new w _)
 have x1_:=As.mk (show OcR w0 (w.alloc (Obj.cells #[.int .i64 0,.string ⟨#[]⟩,.string ⟨#[]⟩,.slice none 0 0,.string ⟨#[]⟩,.string ⟨#[]⟩] 34)) g bs e from OcR.alloc HI.out _)
 have x2_:=As.mk (show Below w0.heap.size w0 (w.alloc (Obj.cells #[.int .i64 0,.string ⟨#[]⟩,.string ⟨#[]⟩,.slice none 0 0,.string ⟨#[]⟩,.string ⟨#[]⟩] 34)) from HB.out.alloc HB.out.size _)
 have x3_:=As.mk (show KeepBut w (w.alloc (Obj.cells #[.int .i64 0,.string ⟨#[]⟩,.string ⟨#[]⟩,.slice none 0 0,.string ⟨#[]⟩,.string ⟨#[]⟩] 34)) g none from keep_alloc HK.out _)
 have x4_:=As.mk (show w.heap.size < (w.alloc (Obj.cells #[.int .i64 0,.string ⟨#[]⟩,.string ⟨#[]⟩,.slice none 0 0,.string ⟨#[]⟩,.string ⟨#[]⟩] 34)).heap.size from blk_lt (blk_new w _))
 have x5_:=As.mk HB.out.size
 clear HI HB HK
 generalize (w.alloc (Obj.cells #[.int .i64 0,.string ⟨#[]⟩,.string ⟨#[]⟩,.slice none 0 0,.string ⟨#[]⟩,.string ⟨#[]⟩] 34)) = wz at x0_ x1_ x2_ x3_ x4_ ⊢
 generalize hgz : w.heap.size = gz at x0_ x4_ x5_ ⊢
 have HGZ:=As.mk hgz
 clear hgz
 have BZ:=x0_
 have HI:=x1_
 have HB:=x2_
 have HK:=x3_
 have HZL:=x4_
 have HZG:=x5_
 clear x0_ x1_ x2_ x3_ x4_ x5_
 have HNZ:=As.mk (show g ≠ gz by have:=HGL.out;have:=HGZ.out;omega)
 go_upto_region 2 with (first | (go_at_call 96;(with_reducible refine (num_calls g bs e HBO0.out w0 _ ?sideI ?sideB).mono ?_);(case sideI=>exact HI.out);(case sideB=>exact HB.out);rintro er w1 ⟨rfl,hI1,hB1,hK1⟩;rw [hq.out] at hI1;simp only [] at hI1;rw [hq.out];simp only [];have n4_:=As.mk (show gz < w1.heap.size from Nat.lt_of_lt_of_le HZL.out hK1.1);clear HZL;have HZL:=n4_;clear n4_;have n0_:=As.mk hI1;have n1_:=As.mk hB1;have n2_:=As.mk (show KeepBut w w1 g none from KeepBut.trans HK.out hK1 (.inl rfl));have n3_:=As.mk (hK1.blk BZ.out HNZ.out.symm (by simp));clear HI HB HK BZ hI1 hB1 hK1;have HI:=n0_;have HB:=n1_;have HK:=n2_;have BZ:=n3_;clear n0_ n1_ n2_ n3_))
 have x0_:=As.mk (show (w1.alloc (Obj.cells #[.int .i64 kd,.string ⟨#[]⟩,.string ⟨#[]⟩,.slice none 0 0,.string ⟨#[]⟩,.string ⟨#[]⟩] 34)).heap[w1.heap.size]? = some (Obj.cells #[.int .i64 kd,.string ⟨#[]⟩,.string ⟨#[]⟩,.slice none 0 0,.string ⟨#[]⟩,.string ⟨#[]⟩] 34) from blk_new w1 _)
 have x1_:=As.mk (show OcR w0 (w1.alloc (Obj.cells #[.int .i64 kd,.string ⟨#[]⟩,.string ⟨#[]⟩,.slice none 0 0,.string ⟨#[]⟩,.string ⟨#[]⟩] 34)) g b1 e1 from OcR.alloc HI.out _)
 have x2_:=As.mk (show Below w0.heap.size w0 (w1.alloc (Obj.cells #[.int .i64 kd,.string ⟨#[]⟩,.string ⟨#[]⟩,.slice none 0 0,.string ⟨#[]⟩,.string ⟨#[]⟩] 34)) from HB.out.alloc HB.out.size _)
 have x3_:=As.mk (show KeepBut w (w1.alloc (Obj.cells #[.int .i64 kd,.string ⟨#[]⟩,.string ⟨#[]⟩,.slice none 0 0,.string ⟨#[]⟩,.string ⟨#[]⟩] 34)) g none from keep_alloc HK.out _)
 have x4_:=As.mk (show w1.heap.size < (w1.alloc (Obj.cells #[.int .i64 kd,.string ⟨#[]⟩,.string ⟨#[]⟩,.slice none 0 0,.string ⟨#[]⟩,.string ⟨#[]⟩] 34)).heap.size from blk_lt (blk_new w1 _))
 have x5_:=As.mk (show (w1.alloc (Obj.cells #[.int .i64 kd,.string ⟨#[]⟩,.string ⟨#[]⟩,.slice none 0 0,.string ⟨#[]⟩,.string ⟨#[]⟩] 34)).heap[gz]? = some (Obj.cells #[.int .i64 0,.string ⟨#[]⟩,.string ⟨#[]⟩,.slice none 0 0,.string ⟨#[]⟩,.string ⟨#[]⟩] 34) from kA BZ.out _)
 clear HI HB HK BZ
 generalize (w1.alloc (Obj.cells #[.int .i64 kd,.string ⟨#[]⟩,.string ⟨#[]⟩,.slice none 0 0,.string ⟨#[]⟩,.string ⟨#[]⟩] 34)) = wd at x0_ x1_ x2_ x3_ x4_ x5_ ⊢
 generalize hgd : w1.heap.size = gd at x0_ x4_ HZL ⊢
 clear hgd
 have BD:=x0_
 have HI:=x1_
 have HB:=x2_
 have HK:=x3_
 have HDL:=x4_
 have BZ:=x5_
 clear x0_ x1_ x2_ x3_ x4_ x5_
 have HND:=As.mk (show g ≠ gd by have:=HGL.out;have:=HGZ.out;have:=HZL.out;omega)
 have HZD:=As.mk (show gz ≠ gd by have:=HZL.out;omega)
 have HDG:=As.mk (show w0.heap.size ≤ gd by have:=HZL.out;have:=HZG.out;omega)
 have HDW:=As.mk (show w.heap.size ≤ gd by have:=HZL.out;have:=HGZ.out;omega)
 have HZW:=As.mk (show w.heap.size ≤ gz by have:=HGZ.out;omega)
 have HZ0:=As.mk (show w0.heap.size ≤ gz by have:=HZG.out;omega)
 have FD:=As.mk (show True from trivial)
 have hczd_0 : wd.cell? ⟨gd,0,none⟩ = some (.int .i64 kd):=(bC BD.out 0).trans rfl;have hczd_1 : wd.cell? ⟨gd,1,none⟩ = some (.string ⟨#[]⟩):=(bC BD.out 1).trans rfl;have hczd_2 : wd.cell? ⟨gd,2,none⟩ = some (.string ⟨#[]⟩):=(bC BD.out 2).trans rfl;have hczd_3 : wd.cell? ⟨gd,3,none⟩ = some (.slice none 0 0):=(bC BD.out 3).trans rfl;have hczd_4 : wd.cell? ⟨gd,4,none⟩ = some (.string ⟨#[]⟩):=(bC BD.out 4).trans rfl;have hczd_5 : wd.cell? ⟨gd,5,none⟩ = some (.string ⟨#[]⟩):=(bC BD.out 5).trans rfl;have hfzd_0:=bF BD.out 0;have hfzd_1:=bF BD.out 1;have hfzd_2:=bF BD.out 2;have hfzd_3:=bF BD.out 3;have hfzd_4:=bF BD.out 4;have hfzd_5:=bF BD.out 5
 by_cases k1 : kd = 1
 ·have k1a : (kd == 1) = true:=beq_iff_eq.mpr k1
  obtain ⟨c,b2,e2,h1_⟩ : ∃ c b2 e2,textR b1 e1 = (c,b2,e2):=⟨_,_,_,rfl⟩
  have q1:=As.mk h1_
  have o1_:=textR_ok (e:=e1) HBO1.out
  have z1_:=textR_size (e:=e1) HBO1.out
  rw [h1_] at o1_ z1_
  have HBO2:=As.mk o1_.1
  obtain ⟨s,b3,e3,h2_⟩ : ∃ s b3 e3,textR b2 e2 = (s,b3,e3):=⟨_,_,_,rfl⟩
  have q2:=As.mk h2_
  have o2_:=textR_ok (e:=e2) HBO2.out
  have z2_:=textR_size (e:=e2) HBO2.out
  rw [h2_] at o2_ z2_
  have HBO3:=As.mk o2_.1
  obtain ⟨v,b4,e4,h3_⟩ : ∃ v b4 e4,textsR b3 e3 = (v,b4,e4):=⟨_,_,_,rfl⟩
  have q3:=As.mk h3_
  have o3_:=textsR_facts (e:=e3) HBO3.out
  rw [h3_] at o3_
  have HSZ:=As.mk (show c.size ≤ 100000 ∧ s.size ≤ 100000 ∧ v.length ≤ 1000000 ∧ (⟨#[]⟩ : ByteArray).size ≤ 100000 ∧ ∀ x ∈ v,x.size ≤ 100000 from by
   have hm:=HM.out
   have hl:=HL1.out
   have a1:=o1_.2
   have a2:=o2_.2
   simp only [] at z1_ z2_ a1 a2
   exact ⟨by omega,by omega,o3_.2.2.1,Nat.zero_le _,fun x hx=>by have:=o3_.2.2.2 x hx;omega⟩)
  clear o1_ o2_ o3_ z1_ z2_ h1_ h2_ h3_
  have QR:=As.mk (readR_class hq.out k1 q1.out q2.out q3.out)
  subst k1
  go_upto_region 7 with (first | (go_at_call 133;(with_reducible refine (text_calls g b1 e1 HBO1.out w0 _ ?sideI ?sideB).mono ?_);(case sideI=>exact HI.out);(case sideB=>exact HB.out);rintro er w2 ⟨rfl,hI1,hB1,hK1⟩;rw [q1.out] at hI1;simp only [] at hI1;rw [q1.out];simp only [];have n0_:=As.mk hI1;have n1_:=As.mk hB1;have n2_:=As.mk (show KeepBut w w2 g none from KeepBut.trans HK.out hK1 (.inl rfl));have n3_:=As.mk (hK1.blk BZ.out HNZ.out.symm (by simp));have n5_:=As.mk (hK1.blk BD.out HND.out.symm (by simp));have n6_:=As.mk (show gd < w2.heap.size from Nat.lt_of_lt_of_le HDL.out hK1.1);clear BD HDL;have BD:=n5_;have HDL:=n6_;clear n5_ n6_;clear HI HB HK BZ hI1 hB1 hK1;have HI:=n0_;have HB:=n1_;have HK:=n2_;have BZ:=n3_;clear n0_ n1_ n2_ n3_) | (go_at_call 133;(with_reducible refine (text_calls g b2 e2 HBO2.out w0 _ ?sideI ?sideB).mono ?_);(case sideI=>exact HI.out);(case sideB=>exact HB.out);rintro er w3 ⟨rfl,hI1,hB1,hK1⟩;rw [q2.out] at hI1;simp only [] at hI1;rw [q2.out];simp only [];have n0_:=As.mk hI1;have n1_:=As.mk hB1;have n2_:=As.mk (show KeepBut w w3 g none from KeepBut.trans HK.out hK1 (.inl rfl));have n3_:=As.mk (hK1.blk BZ.out HNZ.out.symm (by simp));have n5_:=As.mk (hK1.blk BD.out HND.out.symm (by simp));have n6_:=As.mk (show gd < w3.heap.size from Nat.lt_of_lt_of_le HDL.out hK1.1);clear BD HDL;have BD:=n5_;have HDL:=n6_;clear n5_ n6_;clear HI HB HK BZ hI1 hB1 hK1;have HI:=n0_;have HB:=n1_;have HK:=n2_;have BZ:=n3_;clear n0_ n1_ n2_ n3_) | (go_at_call 134;(with_reducible refine (texts_calls g b3 e3 HBO3.out w0 _ ?sideI ?sideB).mono ?_);(case sideI=>exact HI.out);(case sideB=>exact HB.out);rintro er w4 ⟨vv,rfl,hO1,hI1,hB1,hK1⟩;rw [q3.out] at hI1 hO1;simp only [] at hI1 hO1;have HO:=As.mk (Kd.R_mono hO1 (fun k hk=>Nat.lt_of_lt_of_le HDL.out hk));clear hO1;obtain ⟨Av,cv,rfl,hlv,hCv⟩:=Kd.R_reads HO.out;have HLV:=As.mk hlv;clear hlv hCv;have n0_:=As.mk hI1;have n1_:=As.mk hB1;have n2_:=As.mk (show KeepBut w w4 g none from KeepBut.trans HK.out hK1 (.inl rfl));have n3_:=As.mk (hK1.blk BZ.out HNZ.out.symm (by simp));have n5_:=As.mk (hK1.blk BD.out HND.out.symm (by simp));have n6_:=As.mk (show gd < w4.heap.size from Nat.lt_of_lt_of_le HDL.out hK1.1);clear BD HDL;have BD:=n5_;have HDL:=n6_;clear n5_ n6_;clear HI HB HK BZ hI1 hB1 hK1;have HI:=n0_;have HB:=n1_;have HK:=n2_;have BZ:=n3_;clear n0_ n1_ n2_ n3_;clear hczd_0 hfzd_0 hczd_1 hfzd_1 hczd_2 hfzd_2 hczd_3 hfzd_3 hczd_4 hfzd_4 hczd_5 hfzd_5;have hczd_0 : w4.cell? ⟨gd,0,none⟩ = some (.int .i64 1):=(bC BD.out 0).trans rfl;have hczd_1 : w4.cell? ⟨gd,1,none⟩ = some (.string ⟨#[]⟩):=(bC BD.out 1).trans rfl;have hczd_2 : w4.cell? ⟨gd,2,none⟩ = some (.string ⟨#[]⟩):=(bC BD.out 2).trans rfl;have hczd_3 : w4.cell? ⟨gd,3,none⟩ = some (.slice none 0 0):=(bC BD.out 3).trans rfl;have hczd_4 : w4.cell? ⟨gd,4,none⟩ = some (.string ⟨#[]⟩):=(bC BD.out 4).trans rfl;have hczd_5 : w4.cell? ⟨gd,5,none⟩ = some (.string ⟨#[]⟩):=(bC BD.out 5).trans rfl;have hfzd_0:=bF BD.out 0;have hfzd_1:=bF BD.out 1;have hfzd_2:=bF BD.out 2;have hfzd_3:=bF BD.out 3;have hfzd_4:=bF BD.out 4;have hfzd_5:=bF BD.out 5))
  have x0_:=As.mk (show (((w4.setCell ⟨gd,1,none⟩ (.string c)).setCell ⟨gd,2,none⟩ (.string s)).setCell ⟨gd,3,none⟩ (.slice Av v.length cv)).heap[gd]? = some (Obj.cells #[.int .i64 1,.string c,.string s,.slice Av v.length cv,.string ⟨#[]⟩,.string ⟨#[]⟩] 34 (0,0)) by simpa using (blk_set (blk_set (blk_set BD.out 1 (.string c)) 2 (.string s)) 3 (.slice Av v.length cv)))
  have x1_:=As.mk (OcR.far (p:=⟨gd,3,none⟩) (OcR.far (p:=⟨gd,2,none⟩) (OcR.far (p:=⟨gd,1,none⟩) HI.out HND.out (.string c)) HND.out (.string s)) HND.out (.slice Av v.length cv))
  have x2_:=As.mk (show Below w0.heap.size w0 (((w4.setCell ⟨gd,1,none⟩ (.string c)).setCell ⟨gd,2,none⟩ (.string s)).setCell ⟨gd,3,none⟩ (.slice Av v.length cv)) from (bT (bT (bT HB.out HDG.out) HDG.out) HDG.out))
  have x3_:=As.mk (show KeepBut w (((w4.setCell ⟨gd,1,none⟩ (.string c)).setCell ⟨gd,2,none⟩ (.string s)).setCell ⟨gd,3,none⟩ (.slice Av v.length cv)) g none from (keep_far (p:=⟨gd,3,none⟩) (keep_far (p:=⟨gd,2,none⟩) (keep_far (p:=⟨gd,1,none⟩) HK.out HDW.out (.string c)) HDW.out (.string s)) HDW.out (.slice Av v.length cv)))
  have x4_:=As.mk (show (((w4.setCell ⟨gd,1,none⟩ (.string c)).setCell ⟨gd,2,none⟩ (.string s)).setCell ⟨gd,3,none⟩ (.slice Av v.length cv)).heap[gz]? = some (Obj.cells #[.int .i64 0,.string ⟨#[]⟩,.string ⟨#[]⟩,.slice none 0 0,.string ⟨#[]⟩,.string ⟨#[]⟩] 34) from (blk_far (p:=⟨gd,3,none⟩) (blk_far (p:=⟨gd,2,none⟩) (blk_far (p:=⟨gd,1,none⟩) BZ.out HZD.out (.string c)) HZD.out (.string s)) HZD.out (.slice Av v.length cv)))
  have x5_:=As.mk (Kd.R_far (p:=⟨gd,3,none⟩) (Kd.R_far (p:=⟨gd,2,none⟩) (Kd.R_far (p:=⟨gd,1,none⟩) HO.out (fun k hk=>by show k ≠ gd;have : gd < k:=hk;omega) (.string c)) (fun k hk=>by show k ≠ gd;have : gd < k:=hk;omega) (.string s)) (fun k hk=>by show k ≠ gd;have : gd < k:=hk;omega) (.slice Av v.length cv))
  clear HI HB HK BD BZ HO
  generalize (((w4.setCell ⟨gd,1,none⟩ (.string c)).setCell ⟨gd,2,none⟩ (.string s)).setCell ⟨gd,3,none⟩ (.slice Av v.length cv)) = wd at x0_ x1_ x2_ x3_ x4_ x5_ ⊢
  have BD:=x0_
  clear HDL
  have HDL:=As.mk (blk_lt BD.out)
  have HI:=x1_
  have HB:=x2_
  have HK:=x3_
  have BZ:=x4_
  have HO:=x5_
  clear x0_ x1_ x2_ x3_ x4_ x5_
  have hczd_0 : wd.cell? ⟨gd,0,none⟩ = some (.int .i64 1):=(bC BD.out 0).trans rfl;have hczd_1 : wd.cell? ⟨gd,1,none⟩ = some (.string c):=(bC BD.out 1).trans rfl;have hczd_2 : wd.cell? ⟨gd,2,none⟩ = some (.string s):=(bC BD.out 2).trans rfl;have hczd_3 : wd.cell? ⟨gd,3,none⟩ = some (.slice Av v.length cv):=(bC BD.out 3).trans rfl;have hczd_4 : wd.cell? ⟨gd,4,none⟩ = some (.string ⟨#[]⟩):=(bC BD.out 4).trans rfl;have hczd_5 : wd.cell? ⟨gd,5,none⟩ = some (.string ⟨#[]⟩):=(bC BD.out 5).trans rfl;have hfzd_0:=bF BD.out 0;have hfzd_1:=bF BD.out 1;have hfzd_2:=bF BD.out 2;have hfzd_3:=bF BD.out 3;have hfzd_4:=bF BD.out 4;have hfzd_5:=bF BD.out 5
  have hczz_0 : wd.cell? ⟨gz,0,none⟩ = some (.int .i64 0):=(bC BZ.out 0).trans rfl;have hczz_1 : wd.cell? ⟨gz,1,none⟩ = some (.string ⟨#[]⟩):=(bC BZ.out 1).trans rfl;have hczz_2 : wd.cell? ⟨gz,2,none⟩ = some (.string ⟨#[]⟩):=(bC BZ.out 2).trans rfl;have hczz_3 : wd.cell? ⟨gz,3,none⟩ = some (.slice none 0 0):=(bC BZ.out 3).trans rfl;have hczz_4 : wd.cell? ⟨gz,4,none⟩ = some (.string ⟨#[]⟩):=(bC BZ.out 4).trans rfl;have hczz_5 : wd.cell? ⟨gz,5,none⟩ = some (.string ⟨#[]⟩):=(bC BZ.out 5).trans rfl;have hfzz_0:=bF BZ.out 0;have hfzz_1:=bF BZ.out 1;have hfzz_2:=bF BZ.out 2;have hfzz_3:=bF BZ.out 3;have hfzz_4:=bF BZ.out 4;have hfzz_5:=bF BZ.out 5
  have HZLT:=As.mk (show gz < gd by have:=HZL.out;omega)
  by_cases z1 : e4 = 0
  ·have z1a : (e4 != 0) = false:=bne_eq_false_iff_eq.mpr z1
   have z1b : (e4 == 0) = true:=beq_iff_eq.mpr z1
   obtain ⟨K_,hRT⟩:=ev_out (Right_val 1 c s v ⟨#[]⟩ ⟨#[]⟩ (by have:=HSZ.out.2.2.1;omega) (by have:=HSZ.out.2.2.2.1;omega))
   have hRT:=hRT K_ (Nat.le_refl _)
   have hdr : DV.right ⟨1,c,s,v,⟨#[]⟩,⟨#[]⟩⟩ = rightD 1 c s v ⟨#[]⟩ ⟨#[]⟩:=rfl
   obtain ⟨rb,hrb⟩ : ∃ rb,rightD 1 c s v ⟨#[]⟩ ⟨#[]⟩ = rb:=⟨_,rfl⟩
   rw [hrb] at hRT hdr
   have HRT:=As.mk hRT
   have HDR:=As.mk hdr
   have Z1:=As.mk z1
   clear hRT hdr hrb z1
   cases rb with
   | false =>
   go_wp2_with (first | (go_at_call 97;(with_reducible refine (err_calls g b4 e4 w0 _ ?sideI ?sideB).mono ?_);(case sideI=>exact HI.out);(case sideB=>exact HB.out);rintro er w8 ⟨rfl,hI1,hB1,hK1⟩;clear hczd_0 hfzd_0 hczd_1 hfzd_1 hczd_2 hfzd_2 hczd_3 hfzd_3 hczd_4 hfzd_4 hczd_5 hfzd_5;clear hczz_0 hfzz_0 hczz_1 hfzz_1 hczz_2 hfzz_2 hczz_3 hfzz_3 hczz_4 hfzz_4 hczz_5 hfzz_5;have n0_:=As.mk hI1;have n1_:=As.mk hB1;have n2_:=As.mk (show KeepBut w w8 g none from KeepBut.trans HK.out hK1 (.inl rfl));have n3_:=As.mk (hK1.blk BZ.out HNZ.out.symm (by simp));have n5_:=As.mk (hK1.blk BD.out HND.out.symm (by simp));have n6_:=As.mk (show gd < w8.heap.size from Nat.lt_of_lt_of_le HDL.out hK1.1);have n7_:=As.mk (Kd.R_keep HO.out hK1 (fun k hk=>by have:=HDW.out;have:=HGL.out;omega));clear HO;have HO:=n7_;clear n7_;clear BD HDL;have BD:=n5_;have HDL:=n6_;clear n5_ n6_;clear HI HB HK BZ hI1 hB1 hK1;have HI:=n0_;have HB:=n1_;have HK:=n2_;have BZ:=n3_;clear n0_ n1_ n2_ n3_;have hczd_0 : w8.cell? ⟨gd,0,none⟩ = some (.int .i64 1):=(bC BD.out 0).trans rfl;have hczd_1 : w8.cell? ⟨gd,1,none⟩ = some (.string c):=(bC BD.out 1).trans rfl;have hczd_2 : w8.cell? ⟨gd,2,none⟩ = some (.string s):=(bC BD.out 2).trans rfl;have hczd_3 : w8.cell? ⟨gd,3,none⟩ = some (.slice Av v.length cv):=(bC BD.out 3).trans rfl;have hczd_4 : w8.cell? ⟨gd,4,none⟩ = some (.string ⟨#[]⟩):=(bC BD.out 4).trans rfl;have hczd_5 : w8.cell? ⟨gd,5,none⟩ = some (.string ⟨#[]⟩):=(bC BD.out 5).trans rfl;have hfzd_0:=bF BD.out 0;have hfzd_1:=bF BD.out 1;have hfzd_2:=bF BD.out 2;have hfzd_3:=bF BD.out 3;have hfzd_4:=bF BD.out 4;have hfzd_5:=bF BD.out 5;have hczz_0 : w8.cell? ⟨gz,0,none⟩ = some (.int .i64 0):=(bC BZ.out 0).trans rfl;have hczz_1 : w8.cell? ⟨gz,1,none⟩ = some (.string ⟨#[]⟩):=(bC BZ.out 1).trans rfl;have hczz_2 : w8.cell? ⟨gz,2,none⟩ = some (.string ⟨#[]⟩):=(bC BZ.out 2).trans rfl;have hczz_3 : w8.cell? ⟨gz,3,none⟩ = some (.slice none 0 0):=(bC BZ.out 3).trans rfl;have hczz_4 : w8.cell? ⟨gz,4,none⟩ = some (.string ⟨#[]⟩):=(bC BZ.out 4).trans rfl;have hczz_5 : w8.cell? ⟨gz,5,none⟩ = some (.string ⟨#[]⟩):=(bC BZ.out 5).trans rfl;have hfzz_0:=bF BZ.out 0;have hfzz_1:=bF BZ.out 1;have hfzz_2:=bF BZ.out 2;have hfzz_3:=bF BZ.out 3;have hfzz_4:=bF BZ.out 4;have hfzz_5:=bF BZ.out 5) | (go_at_call 102;(with_reducible refine (Nm.calls_args ?same (def_Right.calls K_ 1 c s Av cv v ⟨#[]⟩ ⟨#[]⟩ _ _ ?side1 ?side2 HRT.out)).mono ?_);(case same=>rfl);(case side1=>exact (Kd.R_reads' HO.out).2.2);(case side2=>exact HLV.out);rintro er w9 ⟨rfl,hb1⟩;have n0_:=As.mk (OcR.below HI.out hb1);have n1_:=As.mk (bS HB.out hb1);have n2_:=As.mk (KeepBut.trans HK.out (KeepBut.of_below hb1 g none) (.inl rfl));have n3_:=As.mk (blk_below BZ.out hb1);have n4_:=As.mk (blk_below BD.out hb1);have n5_:=As.mk (Kd.R_below HO.out hb1);clear HI HB HK BZ BD HO hb1;have HI:=n0_;have HB:=n1_;have HK:=n2_;have BZ:=n3_;have BD:=n4_;have HO:=n5_;clear n0_ n1_ n2_ n3_ n4_ n5_;clear hczd_0 hfzd_0 hczd_1 hfzd_1 hczd_2 hfzd_2 hczd_3 hfzd_3 hczd_4 hfzd_4 hczd_5 hfzd_5;clear hczz_0 hfzz_0 hczz_1 hfzz_1 hczz_2 hfzz_2 hczz_3 hfzz_3 hczz_4 hfzz_4 hczz_5 hfzz_5;have hczd_0 : w9.cell? ⟨gd,0,none⟩ = some (.int .i64 1):=(bC BD.out 0).trans rfl;have hczd_1 : w9.cell? ⟨gd,1,none⟩ = some (.string c):=(bC BD.out 1).trans rfl;have hczd_2 : w9.cell? ⟨gd,2,none⟩ = some (.string s):=(bC BD.out 2).trans rfl;have hczd_3 : w9.cell? ⟨gd,3,none⟩ = some (.slice Av v.length cv):=(bC BD.out 3).trans rfl;have hczd_4 : w9.cell? ⟨gd,4,none⟩ = some (.string ⟨#[]⟩):=(bC BD.out 4).trans rfl;have hczd_5 : w9.cell? ⟨gd,5,none⟩ = some (.string ⟨#[]⟩):=(bC BD.out 5).trans rfl;have hfzd_0:=bF BD.out 0;have hfzd_1:=bF BD.out 1;have hfzd_2:=bF BD.out 2;have hfzd_3:=bF BD.out 3;have hfzd_4:=bF BD.out 4;have hfzd_5:=bF BD.out 5;have hczz_0 : w9.cell? ⟨gz,0,none⟩ = some (.int .i64 0):=(bC BZ.out 0).trans rfl;have hczz_1 : w9.cell? ⟨gz,1,none⟩ = some (.string ⟨#[]⟩):=(bC BZ.out 1).trans rfl;have hczz_2 : w9.cell? ⟨gz,2,none⟩ = some (.string ⟨#[]⟩):=(bC BZ.out 2).trans rfl;have hczz_3 : w9.cell? ⟨gz,3,none⟩ = some (.slice none 0 0):=(bC BZ.out 3).trans rfl;have hczz_4 : w9.cell? ⟨gz,4,none⟩ = some (.string ⟨#[]⟩):=(bC BZ.out 4).trans rfl;have hczz_5 : w9.cell? ⟨gz,5,none⟩ = some (.string ⟨#[]⟩):=(bC BZ.out 5).trans rfl;have hfzz_0:=bF BZ.out 0;have hfzz_1:=bF BZ.out 1;have hfzz_2:=bF BZ.out 2;have hfzz_3:=bF BZ.out 3;have hfzz_4:=bF BZ.out 4;have hfzz_5:=bF BZ.out 5))
   (try simp only [Exit.inBlock,Exit.then])
   refine bodyPost_ret (v:=.tuple #[.agg #[.int .i64 0,.string ⟨#[]⟩,.string ⟨#[]⟩,.slice none 0 0,.string ⟨#[]⟩,.string ⟨#[]⟩],.int .i64 31]) ?_ rfl ?_
   ·rw [results_cell_tmp rfl]
    go_simp
   rw [QR.out,finR_not Z1.out HDR.out]
   exact ⟨_,rfl,Kd.R_nil _ _ _ _ _,(by repeat (first | (with_reducible first | exact HI.out | apply OcR.drew | refine OcR.far ?_ HNZ.out _) | exact HI.out)),(by repeat (first | (with_reducible first | exact HB.out | apply bD | refine bT ?_ HZ0.out) | exact HB.out)),(by repeat (first | (with_reducible first | exact HK.out | refine keep_far ?_ HZW.out _ | apply keep_drew) | exact HK.out))⟩
   | true =>
   go_wp2_with (first | (go_at_call 97;(with_reducible refine (err_calls g b4 e4 w0 _ ?sideI ?sideB).mono ?_);(case sideI=>exact HI.out);(case sideB=>exact HB.out);rintro er w8 ⟨rfl,hI1,hB1,hK1⟩;clear hczd_0 hfzd_0 hczd_1 hfzd_1 hczd_2 hfzd_2 hczd_3 hfzd_3 hczd_4 hfzd_4 hczd_5 hfzd_5;clear hczz_0 hfzz_0 hczz_1 hfzz_1 hczz_2 hfzz_2 hczz_3 hfzz_3 hczz_4 hfzz_4 hczz_5 hfzz_5;have n0_:=As.mk hI1;have n1_:=As.mk hB1;have n2_:=As.mk (show KeepBut w w8 g none from KeepBut.trans HK.out hK1 (.inl rfl));have n3_:=As.mk (hK1.blk BZ.out HNZ.out.symm (by simp));have n5_:=As.mk (hK1.blk BD.out HND.out.symm (by simp));have n6_:=As.mk (show gd < w8.heap.size from Nat.lt_of_lt_of_le HDL.out hK1.1);have n7_:=As.mk (Kd.R_keep HO.out hK1 (fun k hk=>by have:=HDW.out;have:=HGL.out;omega));clear HO;have HO:=n7_;clear n7_;clear BD HDL;have BD:=n5_;have HDL:=n6_;clear n5_ n6_;clear HI HB HK BZ hI1 hB1 hK1;have HI:=n0_;have HB:=n1_;have HK:=n2_;have BZ:=n3_;clear n0_ n1_ n2_ n3_;have hczd_0 : w8.cell? ⟨gd,0,none⟩ = some (.int .i64 1):=(bC BD.out 0).trans rfl;have hczd_1 : w8.cell? ⟨gd,1,none⟩ = some (.string c):=(bC BD.out 1).trans rfl;have hczd_2 : w8.cell? ⟨gd,2,none⟩ = some (.string s):=(bC BD.out 2).trans rfl;have hczd_3 : w8.cell? ⟨gd,3,none⟩ = some (.slice Av v.length cv):=(bC BD.out 3).trans rfl;have hczd_4 : w8.cell? ⟨gd,4,none⟩ = some (.string ⟨#[]⟩):=(bC BD.out 4).trans rfl;have hczd_5 : w8.cell? ⟨gd,5,none⟩ = some (.string ⟨#[]⟩):=(bC BD.out 5).trans rfl;have hfzd_0:=bF BD.out 0;have hfzd_1:=bF BD.out 1;have hfzd_2:=bF BD.out 2;have hfzd_3:=bF BD.out 3;have hfzd_4:=bF BD.out 4;have hfzd_5:=bF BD.out 5;have hczz_0 : w8.cell? ⟨gz,0,none⟩ = some (.int .i64 0):=(bC BZ.out 0).trans rfl;have hczz_1 : w8.cell? ⟨gz,1,none⟩ = some (.string ⟨#[]⟩):=(bC BZ.out 1).trans rfl;have hczz_2 : w8.cell? ⟨gz,2,none⟩ = some (.string ⟨#[]⟩):=(bC BZ.out 2).trans rfl;have hczz_3 : w8.cell? ⟨gz,3,none⟩ = some (.slice none 0 0):=(bC BZ.out 3).trans rfl;have hczz_4 : w8.cell? ⟨gz,4,none⟩ = some (.string ⟨#[]⟩):=(bC BZ.out 4).trans rfl;have hczz_5 : w8.cell? ⟨gz,5,none⟩ = some (.string ⟨#[]⟩):=(bC BZ.out 5).trans rfl;have hfzz_0:=bF BZ.out 0;have hfzz_1:=bF BZ.out 1;have hfzz_2:=bF BZ.out 2;have hfzz_3:=bF BZ.out 3;have hfzz_4:=bF BZ.out 4;have hfzz_5:=bF BZ.out 5) | (go_at_call 102;(with_reducible refine (Nm.calls_args ?same (def_Right.calls K_ 1 c s Av cv v ⟨#[]⟩ ⟨#[]⟩ _ _ ?side1 ?side2 HRT.out)).mono ?_);(case same=>rfl);(case side1=>exact (Kd.R_reads' HO.out).2.2);(case side2=>exact HLV.out);rintro er w9 ⟨rfl,hb1⟩;have n0_:=As.mk (OcR.below HI.out hb1);have n1_:=As.mk (bS HB.out hb1);have n2_:=As.mk (KeepBut.trans HK.out (KeepBut.of_below hb1 g none) (.inl rfl));have n3_:=As.mk (blk_below BZ.out hb1);have n4_:=As.mk (blk_below BD.out hb1);have n5_:=As.mk (Kd.R_below HO.out hb1);clear HI HB HK BZ BD HO hb1;have HI:=n0_;have HB:=n1_;have HK:=n2_;have BZ:=n3_;have BD:=n4_;have HO:=n5_;clear n0_ n1_ n2_ n3_ n4_ n5_;clear hczd_0 hfzd_0 hczd_1 hfzd_1 hczd_2 hfzd_2 hczd_3 hfzd_3 hczd_4 hfzd_4 hczd_5 hfzd_5;clear hczz_0 hfzz_0 hczz_1 hfzz_1 hczz_2 hfzz_2 hczz_3 hfzz_3 hczz_4 hfzz_4 hczz_5 hfzz_5;have hczd_0 : w9.cell? ⟨gd,0,none⟩ = some (.int .i64 1):=(bC BD.out 0).trans rfl;have hczd_1 : w9.cell? ⟨gd,1,none⟩ = some (.string c):=(bC BD.out 1).trans rfl;have hczd_2 : w9.cell? ⟨gd,2,none⟩ = some (.string s):=(bC BD.out 2).trans rfl;have hczd_3 : w9.cell? ⟨gd,3,none⟩ = some (.slice Av v.length cv):=(bC BD.out 3).trans rfl;have hczd_4 : w9.cell? ⟨gd,4,none⟩ = some (.string ⟨#[]⟩):=(bC BD.out 4).trans rfl;have hczd_5 : w9.cell? ⟨gd,5,none⟩ = some (.string ⟨#[]⟩):=(bC BD.out 5).trans rfl;have hfzd_0:=bF BD.out 0;have hfzd_1:=bF BD.out 1;have hfzd_2:=bF BD.out 2;have hfzd_3:=bF BD.out 3;have hfzd_4:=bF BD.out 4;have hfzd_5:=bF BD.out 5;have hczz_0 : w9.cell? ⟨gz,0,none⟩ = some (.int .i64 0):=(bC BZ.out 0).trans rfl;have hczz_1 : w9.cell? ⟨gz,1,none⟩ = some (.string ⟨#[]⟩):=(bC BZ.out 1).trans rfl;have hczz_2 : w9.cell? ⟨gz,2,none⟩ = some (.string ⟨#[]⟩):=(bC BZ.out 2).trans rfl;have hczz_3 : w9.cell? ⟨gz,3,none⟩ = some (.slice none 0 0):=(bC BZ.out 3).trans rfl;have hczz_4 : w9.cell? ⟨gz,4,none⟩ = some (.string ⟨#[]⟩):=(bC BZ.out 4).trans rfl;have hczz_5 : w9.cell? ⟨gz,5,none⟩ = some (.string ⟨#[]⟩):=(bC BZ.out 5).trans rfl;have hfzz_0:=bF BZ.out 0;have hfzz_1:=bF BZ.out 1;have hfzz_2:=bF BZ.out 2;have hfzz_3:=bF BZ.out 3;have hfzz_4:=bF BZ.out 4;have hfzz_5:=bF BZ.out 5))
   (try simp only [Exit.inBlock,Exit.then])
   refine bodyPost_ret (v:=.tuple #[.agg #[.int .i64 1,.string c,.string s,.slice Av v.length cv,.string ⟨#[]⟩,.string ⟨#[]⟩],.int .i64 0]) ?_ rfl ?_
   ·rw [results_cell_tmp rfl]
    go_simp
   rw [QR.out,finR_good Z1.out HDR.out]
   exact ⟨_,rfl,Kd.R_mono (by repeat (first | (with_reducible first | exact HO.out) | refine Kd.R_far (ok:=fun k=>gd < k) ?_ (fun k hk=>by show k ≠ gz;have h_ : gd < k:=hk;have:=HZLT.out;omega) _ | exact HO.out)) (fun k hk=>by have:=HDW.out;have hk2 : gd < k:=hk;omega),(by repeat (first | (with_reducible first | exact HI.out | apply OcR.drew | refine OcR.far ?_ HNZ.out _) | exact HI.out)),(by repeat (first | (with_reducible first | exact HB.out | apply bD | refine bT ?_ HZ0.out) | exact HB.out)),(by repeat (first | (with_reducible first | exact HK.out | refine keep_far ?_ HZW.out _ | apply keep_drew) | exact HK.out))⟩
  ·have z1a : (e4 != 0) = true:=bne_iff_ne.mpr z1
   have z1b : (e4 == 0) = false:=beq_eq_false_iff_ne.mpr z1
   go_wp2_with (first | (go_at_call 97;(with_reducible refine (err_calls g b4 e4 w0 _ ?sideI ?sideB).mono ?_);(case sideI=>exact HI.out);(case sideB=>exact HB.out);rintro er w8 ⟨rfl,hI1,hB1,hK1⟩;clear hczd_0 hfzd_0 hczd_1 hfzd_1 hczd_2 hfzd_2 hczd_3 hfzd_3 hczd_4 hfzd_4 hczd_5 hfzd_5;clear hczz_0 hfzz_0 hczz_1 hfzz_1 hczz_2 hfzz_2 hczz_3 hfzz_3 hczz_4 hfzz_4 hczz_5 hfzz_5;have n0_:=As.mk hI1;have n1_:=As.mk hB1;have n2_:=As.mk (show KeepBut w w8 g none from KeepBut.trans HK.out hK1 (.inl rfl));have n3_:=As.mk (hK1.blk BZ.out HNZ.out.symm (by simp));have n5_:=As.mk (hK1.blk BD.out HND.out.symm (by simp));have n6_:=As.mk (show gd < w8.heap.size from Nat.lt_of_lt_of_le HDL.out hK1.1);have n7_:=As.mk (Kd.R_keep HO.out hK1 (fun k hk=>by have:=HDW.out;have:=HGL.out;omega));clear HO;have HO:=n7_;clear n7_;clear BD HDL;have BD:=n5_;have HDL:=n6_;clear n5_ n6_;clear HI HB HK BZ hI1 hB1 hK1;have HI:=n0_;have HB:=n1_;have HK:=n2_;have BZ:=n3_;clear n0_ n1_ n2_ n3_;have hczd_0 : w8.cell? ⟨gd,0,none⟩ = some (.int .i64 1):=(bC BD.out 0).trans rfl;have hczd_1 : w8.cell? ⟨gd,1,none⟩ = some (.string c):=(bC BD.out 1).trans rfl;have hczd_2 : w8.cell? ⟨gd,2,none⟩ = some (.string s):=(bC BD.out 2).trans rfl;have hczd_3 : w8.cell? ⟨gd,3,none⟩ = some (.slice Av v.length cv):=(bC BD.out 3).trans rfl;have hczd_4 : w8.cell? ⟨gd,4,none⟩ = some (.string ⟨#[]⟩):=(bC BD.out 4).trans rfl;have hczd_5 : w8.cell? ⟨gd,5,none⟩ = some (.string ⟨#[]⟩):=(bC BD.out 5).trans rfl;have hfzd_0:=bF BD.out 0;have hfzd_1:=bF BD.out 1;have hfzd_2:=bF BD.out 2;have hfzd_3:=bF BD.out 3;have hfzd_4:=bF BD.out 4;have hfzd_5:=bF BD.out 5;have hczz_0 : w8.cell? ⟨gz,0,none⟩ = some (.int .i64 0):=(bC BZ.out 0).trans rfl;have hczz_1 : w8.cell? ⟨gz,1,none⟩ = some (.string ⟨#[]⟩):=(bC BZ.out 1).trans rfl;have hczz_2 : w8.cell? ⟨gz,2,none⟩ = some (.string ⟨#[]⟩):=(bC BZ.out 2).trans rfl;have hczz_3 : w8.cell? ⟨gz,3,none⟩ = some (.slice none 0 0):=(bC BZ.out 3).trans rfl;have hczz_4 : w8.cell? ⟨gz,4,none⟩ = some (.string ⟨#[]⟩):=(bC BZ.out 4).trans rfl;have hczz_5 : w8.cell? ⟨gz,5,none⟩ = some (.string ⟨#[]⟩):=(bC BZ.out 5).trans rfl;have hfzz_0:=bF BZ.out 0;have hfzz_1:=bF BZ.out 1;have hfzz_2:=bF BZ.out 2;have hfzz_3:=bF BZ.out 3;have hfzz_4:=bF BZ.out 4;have hfzz_5:=bF BZ.out 5))
   (try simp only [Exit.inBlock,Exit.then])
   refine bodyPost_ret (v:=.tuple #[.agg #[.int .i64 0,.string ⟨#[]⟩,.string ⟨#[]⟩,.slice none 0 0,.string ⟨#[]⟩,.string ⟨#[]⟩],.int .i64 e4]) ?_ rfl ?_
   ·rw [results_cell_tmp rfl]
    go_simp
   rw [QR.out,finR_err z1]
   exact ⟨_,rfl,Kd.R_nil _ _ _ _ _,(by repeat (first | (with_reducible first | exact HI.out | apply OcR.drew | refine OcR.far ?_ HNZ.out _) | exact HI.out)),(by repeat (first | (with_reducible first | exact HB.out | apply bD | refine bT ?_ HZ0.out) | exact HB.out)),(by repeat (first | (with_reducible first | exact HK.out | refine keep_far ?_ HZW.out _ | apply keep_drew) | exact HK.out))⟩
 ·have k1a : (kd == 1) = false:=beq_eq_false_iff_ne.mpr k1
  by_cases k2 : kd = 2
  ·have k2a : (kd == 2) = true:=beq_iff_eq.mpr k2
   obtain ⟨c,b2,e2,h1_⟩ : ∃ c b2 e2,textR b1 e1 = (c,b2,e2):=⟨_,_,_,rfl⟩
   have q1:=As.mk h1_
   have o1_:=textR_ok (e:=e1) HBO1.out
   have z1_:=textR_size (e:=e1) HBO1.out
   rw [h1_] at o1_ z1_
   have HBO2:=As.mk o1_.1
   obtain ⟨l,b3,e3,h2_⟩ : ∃ l b3 e3,textR b2 e2 = (l,b3,e3):=⟨_,_,_,rfl⟩
   have q2:=As.mk h2_
   have o2_:=textR_ok (e:=e2) HBO2.out
   have z2_:=textR_size (e:=e2) HBO2.out
   rw [h2_] at o2_ z2_
   have HBO3:=As.mk o2_.1
   obtain ⟨t,b4,e4,h3_⟩ : ∃ t b4 e4,textR b3 e3 = (t,b4,e4):=⟨_,_,_,rfl⟩
   have q3:=As.mk h3_
   have HSZ:=As.mk (show c.size ≤ 100000 ∧ (⟨#[]⟩ : ByteArray).size ≤ 100000 ∧ ([] : List ByteArray).length ≤ 1000000 ∧ l.size ≤ 100000 ∧ ∀ x ∈ ([] : List ByteArray),x.size ≤ 100000 from by
    have hm:=HM.out
    have hl:=HL1.out
    have a1:=o1_.2
    have a2:=o2_.2
    simp only [] at z1_ z2_ a1 a2
    exact ⟨by omega,Nat.zero_le _,Nat.zero_le _,by omega,fun x hx=>by cases hx⟩)
   clear o1_ o2_ z1_ z2_ h1_ h2_ h3_
   have QR:=As.mk (readR_method hq.out k2 q1.out q2.out q3.out)
   subst k2
   go_upto_region 7 with (first | (go_at_call 133;(with_reducible refine (text_calls g b1 e1 HBO1.out w0 _ ?sideI ?sideB).mono ?_);(case sideI=>exact HI.out);(case sideB=>exact HB.out);rintro er w2 ⟨rfl,hI1,hB1,hK1⟩;rw [q1.out] at hI1;simp only [] at hI1;rw [q1.out];simp only [];have n0_:=As.mk hI1;have n1_:=As.mk hB1;have n2_:=As.mk (show KeepBut w w2 g none from KeepBut.trans HK.out hK1 (.inl rfl));have n3_:=As.mk (hK1.blk BZ.out HNZ.out.symm (by simp));have n5_:=As.mk (hK1.blk BD.out HND.out.symm (by simp));have n6_:=As.mk (show gd < w2.heap.size from Nat.lt_of_lt_of_le HDL.out hK1.1);clear BD HDL;have BD:=n5_;have HDL:=n6_;clear n5_ n6_;clear HI HB HK BZ hI1 hB1 hK1;have HI:=n0_;have HB:=n1_;have HK:=n2_;have BZ:=n3_;clear n0_ n1_ n2_ n3_) | (go_at_call 133;(with_reducible refine (text_calls g b2 e2 HBO2.out w0 _ ?sideI ?sideB).mono ?_);(case sideI=>exact HI.out);(case sideB=>exact HB.out);rintro er w3 ⟨rfl,hI1,hB1,hK1⟩;rw [q2.out] at hI1;simp only [] at hI1;rw [q2.out];simp only [];have n0_:=As.mk hI1;have n1_:=As.mk hB1;have n2_:=As.mk (show KeepBut w w3 g none from KeepBut.trans HK.out hK1 (.inl rfl));have n3_:=As.mk (hK1.blk BZ.out HNZ.out.symm (by simp));have n5_:=As.mk (hK1.blk BD.out HND.out.symm (by simp));have n6_:=As.mk (show gd < w3.heap.size from Nat.lt_of_lt_of_le HDL.out hK1.1);clear BD HDL;have BD:=n5_;have HDL:=n6_;clear n5_ n6_;clear HI HB HK BZ hI1 hB1 hK1;have HI:=n0_;have HB:=n1_;have HK:=n2_;have BZ:=n3_;clear n0_ n1_ n2_ n3_) | (go_at_call 133;(with_reducible refine (text_calls g b3 e3 HBO3.out w0 _ ?sideI ?sideB).mono ?_);(case sideI=>exact HI.out);(case sideB=>exact HB.out);rintro er w4 ⟨rfl,hI1,hB1,hK1⟩;rw [q3.out] at hI1;simp only [] at hI1;rw [q3.out];simp only [];have n0_:=As.mk hI1;have n1_:=As.mk hB1;have n2_:=As.mk (show KeepBut w w4 g none from KeepBut.trans HK.out hK1 (.inl rfl));have n3_:=As.mk (hK1.blk BZ.out HNZ.out.symm (by simp));have n5_:=As.mk (hK1.blk BD.out HND.out.symm (by simp));have n6_:=As.mk (show gd < w4.heap.size from Nat.lt_of_lt_of_le HDL.out hK1.1);clear BD HDL;have BD:=n5_;have HDL:=n6_;clear n5_ n6_;clear HI HB HK BZ hI1 hB1 hK1;have HI:=n0_;have HB:=n1_;have HK:=n2_;have BZ:=n3_;clear n0_ n1_ n2_ n3_;clear hczd_0 hfzd_0 hczd_1 hfzd_1 hczd_2 hfzd_2 hczd_3 hfzd_3 hczd_4 hfzd_4 hczd_5 hfzd_5;have hczd_0 : w4.cell? ⟨gd,0,none⟩ = some (.int .i64 2):=(bC BD.out 0).trans rfl;have hczd_1 : w4.cell? ⟨gd,1,none⟩ = some (.string ⟨#[]⟩):=(bC BD.out 1).trans rfl;have hczd_2 : w4.cell? ⟨gd,2,none⟩ = some (.string ⟨#[]⟩):=(bC BD.out 2).trans rfl;have hczd_3 : w4.cell? ⟨gd,3,none⟩ = some (.slice none 0 0):=(bC BD.out 3).trans rfl;have hczd_4 : w4.cell? ⟨gd,4,none⟩ = some (.string ⟨#[]⟩):=(bC BD.out 4).trans rfl;have hczd_5 : w4.cell? ⟨gd,5,none⟩ = some (.string ⟨#[]⟩):=(bC BD.out 5).trans rfl;have hfzd_0:=bF BD.out 0;have hfzd_1:=bF BD.out 1;have hfzd_2:=bF BD.out 2;have hfzd_3:=bF BD.out 3;have hfzd_4:=bF BD.out 4;have hfzd_5:=bF BD.out 5))
   have x0_:=As.mk (show (((w4.setCell ⟨gd,1,none⟩ (.string c)).setCell ⟨gd,4,none⟩ (.string l)).setCell ⟨gd,5,none⟩ (.string t)).heap[gd]? = some (Obj.cells #[.int .i64 2,.string c,.string ⟨#[]⟩,.slice none 0 0,.string l,.string t] 34 (0,0)) by simpa using (blk_set (blk_set (blk_set BD.out 1 (.string c)) 4 (.string l)) 5 (.string t)))
   have x1_:=As.mk (OcR.far (p:=⟨gd,5,none⟩) (OcR.far (p:=⟨gd,4,none⟩) (OcR.far (p:=⟨gd,1,none⟩) HI.out HND.out (.string c)) HND.out (.string l)) HND.out (.string t))
   have x2_:=As.mk (show Below w0.heap.size w0 (((w4.setCell ⟨gd,1,none⟩ (.string c)).setCell ⟨gd,4,none⟩ (.string l)).setCell ⟨gd,5,none⟩ (.string t)) from (bT (bT (bT HB.out HDG.out) HDG.out) HDG.out))
   have x3_:=As.mk (show KeepBut w (((w4.setCell ⟨gd,1,none⟩ (.string c)).setCell ⟨gd,4,none⟩ (.string l)).setCell ⟨gd,5,none⟩ (.string t)) g none from (keep_far (p:=⟨gd,5,none⟩) (keep_far (p:=⟨gd,4,none⟩) (keep_far (p:=⟨gd,1,none⟩) HK.out HDW.out (.string c)) HDW.out (.string l)) HDW.out (.string t)))
   have x4_:=As.mk (show (((w4.setCell ⟨gd,1,none⟩ (.string c)).setCell ⟨gd,4,none⟩ (.string l)).setCell ⟨gd,5,none⟩ (.string t)).heap[gz]? = some (Obj.cells #[.int .i64 0,.string ⟨#[]⟩,.string ⟨#[]⟩,.slice none 0 0,.string ⟨#[]⟩,.string ⟨#[]⟩] 34) from (blk_far (p:=⟨gd,5,none⟩) (blk_far (p:=⟨gd,4,none⟩) (blk_far (p:=⟨gd,1,none⟩) BZ.out HZD.out (.string c)) HZD.out (.string l)) HZD.out (.string t)))
   clear HI HB HK BD BZ
   generalize (((w4.setCell ⟨gd,1,none⟩ (.string c)).setCell ⟨gd,4,none⟩ (.string l)).setCell ⟨gd,5,none⟩ (.string t)) = wd at x0_ x1_ x2_ x3_ x4_ ⊢
   have BD:=x0_
   clear HDL
   have HDL:=As.mk (blk_lt BD.out)
   have HI:=x1_
   have HB:=x2_
   have HK:=x3_
   have BZ:=x4_
   clear x0_ x1_ x2_ x3_ x4_
   have HO:=As.mk (Kd.R_nil Kd.string 9 wd w0.heap.size (fun k=>gd < k))
   have HLV:=As.mk (show ([] : List ByteArray).length ≤ 0 from Nat.le_refl _)
   have hczd_0 : wd.cell? ⟨gd,0,none⟩ = some (.int .i64 2):=(bC BD.out 0).trans rfl;have hczd_1 : wd.cell? ⟨gd,1,none⟩ = some (.string c):=(bC BD.out 1).trans rfl;have hczd_2 : wd.cell? ⟨gd,2,none⟩ = some (.string ⟨#[]⟩):=(bC BD.out 2).trans rfl;have hczd_3 : wd.cell? ⟨gd,3,none⟩ = some (.slice none 0 0):=(bC BD.out 3).trans rfl;have hczd_4 : wd.cell? ⟨gd,4,none⟩ = some (.string l):=(bC BD.out 4).trans rfl;have hczd_5 : wd.cell? ⟨gd,5,none⟩ = some (.string t):=(bC BD.out 5).trans rfl;have hfzd_0:=bF BD.out 0;have hfzd_1:=bF BD.out 1;have hfzd_2:=bF BD.out 2;have hfzd_3:=bF BD.out 3;have hfzd_4:=bF BD.out 4;have hfzd_5:=bF BD.out 5
   have hczz_0 : wd.cell? ⟨gz,0,none⟩ = some (.int .i64 0):=(bC BZ.out 0).trans rfl;have hczz_1 : wd.cell? ⟨gz,1,none⟩ = some (.string ⟨#[]⟩):=(bC BZ.out 1).trans rfl;have hczz_2 : wd.cell? ⟨gz,2,none⟩ = some (.string ⟨#[]⟩):=(bC BZ.out 2).trans rfl;have hczz_3 : wd.cell? ⟨gz,3,none⟩ = some (.slice none 0 0):=(bC BZ.out 3).trans rfl;have hczz_4 : wd.cell? ⟨gz,4,none⟩ = some (.string ⟨#[]⟩):=(bC BZ.out 4).trans rfl;have hczz_5 : wd.cell? ⟨gz,5,none⟩ = some (.string ⟨#[]⟩):=(bC BZ.out 5).trans rfl;have hfzz_0:=bF BZ.out 0;have hfzz_1:=bF BZ.out 1;have hfzz_2:=bF BZ.out 2;have hfzz_3:=bF BZ.out 3;have hfzz_4:=bF BZ.out 4;have hfzz_5:=bF BZ.out 5
   have HZLT:=As.mk (show gz < gd by have:=HZL.out;omega)
   by_cases z1 : e4 = 0
   ·have z1a : (e4 != 0) = false:=bne_eq_false_iff_eq.mpr z1
    have z1b : (e4 == 0) = true:=beq_iff_eq.mpr z1
    obtain ⟨K_,hRT⟩:=ev_out (Right_val 2 c ⟨#[]⟩ [] l t (by have:=HSZ.out.2.2.1;omega) (by have:=HSZ.out.2.2.2.1;omega))
    have hRT:=hRT K_ (Nat.le_refl _)
    have hdr : DV.right ⟨2,c,⟨#[]⟩,[],l,t⟩ = rightD 2 c ⟨#[]⟩ [] l t:=rfl
    obtain ⟨rb,hrb⟩ : ∃ rb,rightD 2 c ⟨#[]⟩ [] l t = rb:=⟨_,rfl⟩
    rw [hrb] at hRT hdr
    have HRT:=As.mk hRT
    have HDR:=As.mk hdr
    have Z1:=As.mk z1
    clear hRT hdr hrb z1
    cases rb with
    | false =>
    go_wp2_with (first | (go_at_call 97;(with_reducible refine (err_calls g b4 e4 w0 _ ?sideI ?sideB).mono ?_);(case sideI=>exact HI.out);(case sideB=>exact HB.out);rintro er w8 ⟨rfl,hI1,hB1,hK1⟩;clear hczd_0 hfzd_0 hczd_1 hfzd_1 hczd_2 hfzd_2 hczd_3 hfzd_3 hczd_4 hfzd_4 hczd_5 hfzd_5;clear hczz_0 hfzz_0 hczz_1 hfzz_1 hczz_2 hfzz_2 hczz_3 hfzz_3 hczz_4 hfzz_4 hczz_5 hfzz_5;have n0_:=As.mk hI1;have n1_:=As.mk hB1;have n2_:=As.mk (show KeepBut w w8 g none from KeepBut.trans HK.out hK1 (.inl rfl));have n3_:=As.mk (hK1.blk BZ.out HNZ.out.symm (by simp));have n5_:=As.mk (hK1.blk BD.out HND.out.symm (by simp));have n6_:=As.mk (show gd < w8.heap.size from Nat.lt_of_lt_of_le HDL.out hK1.1);have n7_:=As.mk (Kd.R_keep HO.out hK1 (fun k hk=>by have:=HDW.out;have:=HGL.out;omega));clear HO;have HO:=n7_;clear n7_;clear BD HDL;have BD:=n5_;have HDL:=n6_;clear n5_ n6_;clear HI HB HK BZ hI1 hB1 hK1;have HI:=n0_;have HB:=n1_;have HK:=n2_;have BZ:=n3_;clear n0_ n1_ n2_ n3_;have hczd_0 : w8.cell? ⟨gd,0,none⟩ = some (.int .i64 2):=(bC BD.out 0).trans rfl;have hczd_1 : w8.cell? ⟨gd,1,none⟩ = some (.string c):=(bC BD.out 1).trans rfl;have hczd_2 : w8.cell? ⟨gd,2,none⟩ = some (.string ⟨#[]⟩):=(bC BD.out 2).trans rfl;have hczd_3 : w8.cell? ⟨gd,3,none⟩ = some (.slice none 0 0):=(bC BD.out 3).trans rfl;have hczd_4 : w8.cell? ⟨gd,4,none⟩ = some (.string l):=(bC BD.out 4).trans rfl;have hczd_5 : w8.cell? ⟨gd,5,none⟩ = some (.string t):=(bC BD.out 5).trans rfl;have hfzd_0:=bF BD.out 0;have hfzd_1:=bF BD.out 1;have hfzd_2:=bF BD.out 2;have hfzd_3:=bF BD.out 3;have hfzd_4:=bF BD.out 4;have hfzd_5:=bF BD.out 5;have hczz_0 : w8.cell? ⟨gz,0,none⟩ = some (.int .i64 0):=(bC BZ.out 0).trans rfl;have hczz_1 : w8.cell? ⟨gz,1,none⟩ = some (.string ⟨#[]⟩):=(bC BZ.out 1).trans rfl;have hczz_2 : w8.cell? ⟨gz,2,none⟩ = some (.string ⟨#[]⟩):=(bC BZ.out 2).trans rfl;have hczz_3 : w8.cell? ⟨gz,3,none⟩ = some (.slice none 0 0):=(bC BZ.out 3).trans rfl;have hczz_4 : w8.cell? ⟨gz,4,none⟩ = some (.string ⟨#[]⟩):=(bC BZ.out 4).trans rfl;have hczz_5 : w8.cell? ⟨gz,5,none⟩ = some (.string ⟨#[]⟩):=(bC BZ.out 5).trans rfl;have hfzz_0:=bF BZ.out 0;have hfzz_1:=bF BZ.out 1;have hfzz_2:=bF BZ.out 2;have hfzz_3:=bF BZ.out 3;have hfzz_4:=bF BZ.out 4;have hfzz_5:=bF BZ.out 5) | (go_at_call 102;(with_reducible refine (Nm.calls_args ?same (def_Right.calls K_ 2 c ⟨#[]⟩ none 0 [] l t _ _ ?side1 ?side2 HRT.out)).mono ?_);(case same=>rfl);(case side1=>exact (Kd.R_reads' HO.out).2.2);(case side2=>exact HLV.out);rintro er w9 ⟨rfl,hb1⟩;have n0_:=As.mk (OcR.below HI.out hb1);have n1_:=As.mk (bS HB.out hb1);have n2_:=As.mk (KeepBut.trans HK.out (KeepBut.of_below hb1 g none) (.inl rfl));have n3_:=As.mk (blk_below BZ.out hb1);have n4_:=As.mk (blk_below BD.out hb1);have n5_:=As.mk (Kd.R_below HO.out hb1);clear HI HB HK BZ BD HO hb1;have HI:=n0_;have HB:=n1_;have HK:=n2_;have BZ:=n3_;have BD:=n4_;have HO:=n5_;clear n0_ n1_ n2_ n3_ n4_ n5_;clear hczd_0 hfzd_0 hczd_1 hfzd_1 hczd_2 hfzd_2 hczd_3 hfzd_3 hczd_4 hfzd_4 hczd_5 hfzd_5;clear hczz_0 hfzz_0 hczz_1 hfzz_1 hczz_2 hfzz_2 hczz_3 hfzz_3 hczz_4 hfzz_4 hczz_5 hfzz_5;have hczd_0 : w9.cell? ⟨gd,0,none⟩ = some (.int .i64 2):=(bC BD.out 0).trans rfl;have hczd_1 : w9.cell? ⟨gd,1,none⟩ = some (.string c):=(bC BD.out 1).trans rfl;have hczd_2 : w9.cell? ⟨gd,2,none⟩ = some (.string ⟨#[]⟩):=(bC BD.out 2).trans rfl;have hczd_3 : w9.cell? ⟨gd,3,none⟩ = some (.slice none 0 0):=(bC BD.out 3).trans rfl;have hczd_4 : w9.cell? ⟨gd,4,none⟩ = some (.string l):=(bC BD.out 4).trans rfl;have hczd_5 : w9.cell? ⟨gd,5,none⟩ = some (.string t):=(bC BD.out 5).trans rfl;have hfzd_0:=bF BD.out 0;have hfzd_1:=bF BD.out 1;have hfzd_2:=bF BD.out 2;have hfzd_3:=bF BD.out 3;have hfzd_4:=bF BD.out 4;have hfzd_5:=bF BD.out 5;have hczz_0 : w9.cell? ⟨gz,0,none⟩ = some (.int .i64 0):=(bC BZ.out 0).trans rfl;have hczz_1 : w9.cell? ⟨gz,1,none⟩ = some (.string ⟨#[]⟩):=(bC BZ.out 1).trans rfl;have hczz_2 : w9.cell? ⟨gz,2,none⟩ = some (.string ⟨#[]⟩):=(bC BZ.out 2).trans rfl;have hczz_3 : w9.cell? ⟨gz,3,none⟩ = some (.slice none 0 0):=(bC BZ.out 3).trans rfl;have hczz_4 : w9.cell? ⟨gz,4,none⟩ = some (.string ⟨#[]⟩):=(bC BZ.out 4).trans rfl;have hczz_5 : w9.cell? ⟨gz,5,none⟩ = some (.string ⟨#[]⟩):=(bC BZ.out 5).trans rfl;have hfzz_0:=bF BZ.out 0;have hfzz_1:=bF BZ.out 1;have hfzz_2:=bF BZ.out 2;have hfzz_3:=bF BZ.out 3;have hfzz_4:=bF BZ.out 4;have hfzz_5:=bF BZ.out 5))
    (try simp only [Exit.inBlock,Exit.then])
    refine bodyPost_ret (v:=.tuple #[.agg #[.int .i64 0,.string ⟨#[]⟩,.string ⟨#[]⟩,.slice none 0 0,.string ⟨#[]⟩,.string ⟨#[]⟩],.int .i64 31]) ?_ rfl ?_
    ·rw [results_cell_tmp rfl]
     go_simp
    rw [QR.out,finR_not Z1.out HDR.out]
    exact ⟨_,rfl,Kd.R_nil _ _ _ _ _,(by repeat (first | (with_reducible first | exact HI.out | apply OcR.drew | refine OcR.far ?_ HNZ.out _) | exact HI.out)),(by repeat (first | (with_reducible first | exact HB.out | apply bD | refine bT ?_ HZ0.out) | exact HB.out)),(by repeat (first | (with_reducible first | exact HK.out | refine keep_far ?_ HZW.out _ | apply keep_drew) | exact HK.out))⟩
    | true =>
    go_wp2_with (first | (go_at_call 97;(with_reducible refine (err_calls g b4 e4 w0 _ ?sideI ?sideB).mono ?_);(case sideI=>exact HI.out);(case sideB=>exact HB.out);rintro er w8 ⟨rfl,hI1,hB1,hK1⟩;clear hczd_0 hfzd_0 hczd_1 hfzd_1 hczd_2 hfzd_2 hczd_3 hfzd_3 hczd_4 hfzd_4 hczd_5 hfzd_5;clear hczz_0 hfzz_0 hczz_1 hfzz_1 hczz_2 hfzz_2 hczz_3 hfzz_3 hczz_4 hfzz_4 hczz_5 hfzz_5;have n0_:=As.mk hI1;have n1_:=As.mk hB1;have n2_:=As.mk (show KeepBut w w8 g none from KeepBut.trans HK.out hK1 (.inl rfl));have n3_:=As.mk (hK1.blk BZ.out HNZ.out.symm (by simp));have n5_:=As.mk (hK1.blk BD.out HND.out.symm (by simp));have n6_:=As.mk (show gd < w8.heap.size from Nat.lt_of_lt_of_le HDL.out hK1.1);have n7_:=As.mk (Kd.R_keep HO.out hK1 (fun k hk=>by have:=HDW.out;have:=HGL.out;omega));clear HO;have HO:=n7_;clear n7_;clear BD HDL;have BD:=n5_;have HDL:=n6_;clear n5_ n6_;clear HI HB HK BZ hI1 hB1 hK1;have HI:=n0_;have HB:=n1_;have HK:=n2_;have BZ:=n3_;clear n0_ n1_ n2_ n3_;have hczd_0 : w8.cell? ⟨gd,0,none⟩ = some (.int .i64 2):=(bC BD.out 0).trans rfl;have hczd_1 : w8.cell? ⟨gd,1,none⟩ = some (.string c):=(bC BD.out 1).trans rfl;have hczd_2 : w8.cell? ⟨gd,2,none⟩ = some (.string ⟨#[]⟩):=(bC BD.out 2).trans rfl;have hczd_3 : w8.cell? ⟨gd,3,none⟩ = some (.slice none 0 0):=(bC BD.out 3).trans rfl;have hczd_4 : w8.cell? ⟨gd,4,none⟩ = some (.string l):=(bC BD.out 4).trans rfl;have hczd_5 : w8.cell? ⟨gd,5,none⟩ = some (.string t):=(bC BD.out 5).trans rfl;have hfzd_0:=bF BD.out 0;have hfzd_1:=bF BD.out 1;have hfzd_2:=bF BD.out 2;have hfzd_3:=bF BD.out 3;have hfzd_4:=bF BD.out 4;have hfzd_5:=bF BD.out 5;have hczz_0 : w8.cell? ⟨gz,0,none⟩ = some (.int .i64 0):=(bC BZ.out 0).trans rfl;have hczz_1 : w8.cell? ⟨gz,1,none⟩ = some (.string ⟨#[]⟩):=(bC BZ.out 1).trans rfl;have hczz_2 : w8.cell? ⟨gz,2,none⟩ = some (.string ⟨#[]⟩):=(bC BZ.out 2).trans rfl;have hczz_3 : w8.cell? ⟨gz,3,none⟩ = some (.slice none 0 0):=(bC BZ.out 3).trans rfl;have hczz_4 : w8.cell? ⟨gz,4,none⟩ = some (.string ⟨#[]⟩):=(bC BZ.out 4).trans rfl;have hczz_5 : w8.cell? ⟨gz,5,none⟩ = some (.string ⟨#[]⟩):=(bC BZ.out 5).trans rfl;have hfzz_0:=bF BZ.out 0;have hfzz_1:=bF BZ.out 1;have hfzz_2:=bF BZ.out 2;have hfzz_3:=bF BZ.out 3;have hfzz_4:=bF BZ.out 4;have hfzz_5:=bF BZ.out 5) | (go_at_call 102;(with_reducible refine (Nm.calls_args ?same (def_Right.calls K_ 2 c ⟨#[]⟩ none 0 [] l t _ _ ?side1 ?side2 HRT.out)).mono ?_);(case same=>rfl);(case side1=>exact (Kd.R_reads' HO.out).2.2);(case side2=>exact HLV.out);rintro er w9 ⟨rfl,hb1⟩;have n0_:=As.mk (OcR.below HI.out hb1);have n1_:=As.mk (bS HB.out hb1);have n2_:=As.mk (KeepBut.trans HK.out (KeepBut.of_below hb1 g none) (.inl rfl));have n3_:=As.mk (blk_below BZ.out hb1);have n4_:=As.mk (blk_below BD.out hb1);have n5_:=As.mk (Kd.R_below HO.out hb1);clear HI HB HK BZ BD HO hb1;have HI:=n0_;have HB:=n1_;have HK:=n2_;have BZ:=n3_;have BD:=n4_;have HO:=n5_;clear n0_ n1_ n2_ n3_ n4_ n5_;clear hczd_0 hfzd_0 hczd_1 hfzd_1 hczd_2 hfzd_2 hczd_3 hfzd_3 hczd_4 hfzd_4 hczd_5 hfzd_5;clear hczz_0 hfzz_0 hczz_1 hfzz_1 hczz_2 hfzz_2 hczz_3 hfzz_3 hczz_4 hfzz_4 hczz_5 hfzz_5;have hczd_0 : w9.cell? ⟨gd,0,none⟩ = some (.int .i64 2):=(bC BD.out 0).trans rfl;have hczd_1 : w9.cell? ⟨gd,1,none⟩ = some (.string c):=(bC BD.out 1).trans rfl;have hczd_2 : w9.cell? ⟨gd,2,none⟩ = some (.string ⟨#[]⟩):=(bC BD.out 2).trans rfl;have hczd_3 : w9.cell? ⟨gd,3,none⟩ = some (.slice none 0 0):=(bC BD.out 3).trans rfl;have hczd_4 : w9.cell? ⟨gd,4,none⟩ = some (.string l):=(bC BD.out 4).trans rfl;have hczd_5 : w9.cell? ⟨gd,5,none⟩ = some (.string t):=(bC BD.out 5).trans rfl;have hfzd_0:=bF BD.out 0;have hfzd_1:=bF BD.out 1;have hfzd_2:=bF BD.out 2;have hfzd_3:=bF BD.out 3;have hfzd_4:=bF BD.out 4;have hfzd_5:=bF BD.out 5;have hczz_0 : w9.cell? ⟨gz,0,none⟩ = some (.int .i64 0):=(bC BZ.out 0).trans rfl;have hczz_1 : w9.cell? ⟨gz,1,none⟩ = some (.string ⟨#[]⟩):=(bC BZ.out 1).trans rfl;have hczz_2 : w9.cell? ⟨gz,2,none⟩ = some (.string ⟨#[]⟩):=(bC BZ.out 2).trans rfl;have hczz_3 : w9.cell? ⟨gz,3,none⟩ = some (.slice none 0 0):=(bC BZ.out 3).trans rfl;have hczz_4 : w9.cell? ⟨gz,4,none⟩ = some (.string ⟨#[]⟩):=(bC BZ.out 4).trans rfl;have hczz_5 : w9.cell? ⟨gz,5,none⟩ = some (.string ⟨#[]⟩):=(bC BZ.out 5).trans rfl;have hfzz_0:=bF BZ.out 0;have hfzz_1:=bF BZ.out 1;have hfzz_2:=bF BZ.out 2;have hfzz_3:=bF BZ.out 3;have hfzz_4:=bF BZ.out 4;have hfzz_5:=bF BZ.out 5))
    (try simp only [Exit.inBlock,Exit.then])
    refine bodyPost_ret (v:=.tuple #[.agg #[.int .i64 2,.string c,.string ⟨#[]⟩,.slice none 0 0,.string l,.string t],.int .i64 0]) ?_ rfl ?_
    ·rw [results_cell_tmp rfl]
     go_simp
    rw [QR.out,finR_good Z1.out HDR.out]
    exact ⟨_,rfl,Kd.R_mono (by repeat (first | (with_reducible first | exact HO.out) | refine Kd.R_far (ok:=fun k=>gd < k) ?_ (fun k hk=>by show k ≠ gz;have h_ : gd < k:=hk;have:=HZLT.out;omega) _ | exact HO.out)) (fun k hk=>by have:=HDW.out;have hk2 : gd < k:=hk;omega),(by repeat (first | (with_reducible first | exact HI.out | apply OcR.drew | refine OcR.far ?_ HNZ.out _) | exact HI.out)),(by repeat (first | (with_reducible first | exact HB.out | apply bD | refine bT ?_ HZ0.out) | exact HB.out)),(by repeat (first | (with_reducible first | exact HK.out | refine keep_far ?_ HZW.out _ | apply keep_drew) | exact HK.out))⟩
   ·have z1a : (e4 != 0) = true:=bne_iff_ne.mpr z1
    have z1b : (e4 == 0) = false:=beq_eq_false_iff_ne.mpr z1
    go_wp2_with (first | (go_at_call 97;(with_reducible refine (err_calls g b4 e4 w0 _ ?sideI ?sideB).mono ?_);(case sideI=>exact HI.out);(case sideB=>exact HB.out);rintro er w8 ⟨rfl,hI1,hB1,hK1⟩;clear hczd_0 hfzd_0 hczd_1 hfzd_1 hczd_2 hfzd_2 hczd_3 hfzd_3 hczd_4 hfzd_4 hczd_5 hfzd_5;clear hczz_0 hfzz_0 hczz_1 hfzz_1 hczz_2 hfzz_2 hczz_3 hfzz_3 hczz_4 hfzz_4 hczz_5 hfzz_5;have n0_:=As.mk hI1;have n1_:=As.mk hB1;have n2_:=As.mk (show KeepBut w w8 g none from KeepBut.trans HK.out hK1 (.inl rfl));have n3_:=As.mk (hK1.blk BZ.out HNZ.out.symm (by simp));have n5_:=As.mk (hK1.blk BD.out HND.out.symm (by simp));have n6_:=As.mk (show gd < w8.heap.size from Nat.lt_of_lt_of_le HDL.out hK1.1);have n7_:=As.mk (Kd.R_keep HO.out hK1 (fun k hk=>by have:=HDW.out;have:=HGL.out;omega));clear HO;have HO:=n7_;clear n7_;clear BD HDL;have BD:=n5_;have HDL:=n6_;clear n5_ n6_;clear HI HB HK BZ hI1 hB1 hK1;have HI:=n0_;have HB:=n1_;have HK:=n2_;have BZ:=n3_;clear n0_ n1_ n2_ n3_;have hczd_0 : w8.cell? ⟨gd,0,none⟩ = some (.int .i64 2):=(bC BD.out 0).trans rfl;have hczd_1 : w8.cell? ⟨gd,1,none⟩ = some (.string c):=(bC BD.out 1).trans rfl;have hczd_2 : w8.cell? ⟨gd,2,none⟩ = some (.string ⟨#[]⟩):=(bC BD.out 2).trans rfl;have hczd_3 : w8.cell? ⟨gd,3,none⟩ = some (.slice none 0 0):=(bC BD.out 3).trans rfl;have hczd_4 : w8.cell? ⟨gd,4,none⟩ = some (.string l):=(bC BD.out 4).trans rfl;have hczd_5 : w8.cell? ⟨gd,5,none⟩ = some (.string t):=(bC BD.out 5).trans rfl;have hfzd_0:=bF BD.out 0;have hfzd_1:=bF BD.out 1;have hfzd_2:=bF BD.out 2;have hfzd_3:=bF BD.out 3;have hfzd_4:=bF BD.out 4;have hfzd_5:=bF BD.out 5;have hczz_0 : w8.cell? ⟨gz,0,none⟩ = some (.int .i64 0):=(bC BZ.out 0).trans rfl;have hczz_1 : w8.cell? ⟨gz,1,none⟩ = some (.string ⟨#[]⟩):=(bC BZ.out 1).trans rfl;have hczz_2 : w8.cell? ⟨gz,2,none⟩ = some (.string ⟨#[]⟩):=(bC BZ.out 2).trans rfl;have hczz_3 : w8.cell? ⟨gz,3,none⟩ = some (.slice none 0 0):=(bC BZ.out 3).trans rfl;have hczz_4 : w8.cell? ⟨gz,4,none⟩ = some (.string ⟨#[]⟩):=(bC BZ.out 4).trans rfl;have hczz_5 : w8.cell? ⟨gz,5,none⟩ = some (.string ⟨#[]⟩):=(bC BZ.out 5).trans rfl;have hfzz_0:=bF BZ.out 0;have hfzz_1:=bF BZ.out 1;have hfzz_2:=bF BZ.out 2;have hfzz_3:=bF BZ.out 3;have hfzz_4:=bF BZ.out 4;have hfzz_5:=bF BZ.out 5))
    (try simp only [Exit.inBlock,Exit.then])
    refine bodyPost_ret (v:=.tuple #[.agg #[.int .i64 0,.string ⟨#[]⟩,.string ⟨#[]⟩,.slice none 0 0,.string ⟨#[]⟩,.string ⟨#[]⟩],.int .i64 e4]) ?_ rfl ?_
    ·rw [results_cell_tmp rfl]
     go_simp
    rw [QR.out,finR_err z1]
    exact ⟨_,rfl,Kd.R_nil _ _ _ _ _,(by repeat (first | (with_reducible first | exact HI.out | apply OcR.drew | refine OcR.far ?_ HNZ.out _) | exact HI.out)),(by repeat (first | (with_reducible first | exact HB.out | apply bD | refine bT ?_ HZ0.out) | exact HB.out)),(by repeat (first | (with_reducible first | exact HK.out | refine keep_far ?_ HZW.out _ | apply keep_drew) | exact HK.out))⟩
  ·have k2a : (kd == 2) = false:=beq_eq_false_iff_ne.mpr k2
   have HSZ:=As.mk (show (⟨#[]⟩ : ByteArray).size ≤ 100000 ∧ (⟨#[]⟩ : ByteArray).size ≤ 100000 ∧ ([] : List ByteArray).length ≤ 1000000 ∧ (⟨#[]⟩ : ByteArray).size ≤ 100000 ∧ ∀ x ∈ ([] : List ByteArray),x.size ≤ 100000 from ⟨Nat.zero_le _,Nat.zero_le _,Nat.zero_le _,Nat.zero_le _,fun x hx=>by cases hx⟩)
   have QR:=As.mk (readR_else hq.out k1 k2)
   clear k1 k2
   have HO:=As.mk (Kd.R_nil Kd.string 9 wd w0.heap.size (fun k=>gd < k))
   have HLV:=As.mk (show ([] : List ByteArray).length ≤ 0 from Nat.le_refl _)
   have hczd_0 : wd.cell? ⟨gd,0,none⟩ = some (.int .i64 kd):=(bC BD.out 0).trans rfl;have hczd_1 : wd.cell? ⟨gd,1,none⟩ = some (.string ⟨#[]⟩):=(bC BD.out 1).trans rfl;have hczd_2 : wd.cell? ⟨gd,2,none⟩ = some (.string ⟨#[]⟩):=(bC BD.out 2).trans rfl;have hczd_3 : wd.cell? ⟨gd,3,none⟩ = some (.slice none 0 0):=(bC BD.out 3).trans rfl;have hczd_4 : wd.cell? ⟨gd,4,none⟩ = some (.string ⟨#[]⟩):=(bC BD.out 4).trans rfl;have hczd_5 : wd.cell? ⟨gd,5,none⟩ = some (.string ⟨#[]⟩):=(bC BD.out 5).trans rfl;have hfzd_0:=bF BD.out 0;have hfzd_1:=bF BD.out 1;have hfzd_2:=bF BD.out 2;have hfzd_3:=bF BD.out 3;have hfzd_4:=bF BD.out 4;have hfzd_5:=bF BD.out 5
   have hczz_0 : wd.cell? ⟨gz,0,none⟩ = some (.int .i64 0):=(bC BZ.out 0).trans rfl;have hczz_1 : wd.cell? ⟨gz,1,none⟩ = some (.string ⟨#[]⟩):=(bC BZ.out 1).trans rfl;have hczz_2 : wd.cell? ⟨gz,2,none⟩ = some (.string ⟨#[]⟩):=(bC BZ.out 2).trans rfl;have hczz_3 : wd.cell? ⟨gz,3,none⟩ = some (.slice none 0 0):=(bC BZ.out 3).trans rfl;have hczz_4 : wd.cell? ⟨gz,4,none⟩ = some (.string ⟨#[]⟩):=(bC BZ.out 4).trans rfl;have hczz_5 : wd.cell? ⟨gz,5,none⟩ = some (.string ⟨#[]⟩):=(bC BZ.out 5).trans rfl;have hfzz_0:=bF BZ.out 0;have hfzz_1:=bF BZ.out 1;have hfzz_2:=bF BZ.out 2;have hfzz_3:=bF BZ.out 3;have hfzz_4:=bF BZ.out 4;have hfzz_5:=bF BZ.out 5
   have HZLT:=As.mk (show gz < gd by have:=HZL.out;omega)
   by_cases z1 : e1 = 0
   ·have z1a : (e1 != 0) = false:=bne_eq_false_iff_eq.mpr z1
    have z1b : (e1 == 0) = true:=beq_iff_eq.mpr z1
    obtain ⟨K_,hRT⟩:=ev_out (Right_val kd ⟨#[]⟩ ⟨#[]⟩ [] ⟨#[]⟩ ⟨#[]⟩ (by have:=HSZ.out.2.2.1;omega) (by have:=HSZ.out.2.2.2.1;omega))
    have hRT:=hRT K_ (Nat.le_refl _)
    have hdr : DV.right ⟨kd,⟨#[]⟩,⟨#[]⟩,[],⟨#[]⟩,⟨#[]⟩⟩ = rightD kd ⟨#[]⟩ ⟨#[]⟩ [] ⟨#[]⟩ ⟨#[]⟩:=rfl
    obtain ⟨rb,hrb⟩ : ∃ rb,rightD kd ⟨#[]⟩ ⟨#[]⟩ [] ⟨#[]⟩ ⟨#[]⟩ = rb:=⟨_,rfl⟩
    rw [hrb] at hRT hdr
    have HRT:=As.mk hRT
    have HDR:=As.mk hdr
    have Z1:=As.mk z1
    clear hRT hdr hrb z1
    cases rb with
    | false =>
    go_wp2_with (first | (go_at_call 97;(with_reducible refine (err_calls g b1 e1 w0 _ ?sideI ?sideB).mono ?_);(case sideI=>exact HI.out);(case sideB=>exact HB.out);rintro er w8 ⟨rfl,hI1,hB1,hK1⟩;clear hczd_0 hfzd_0 hczd_1 hfzd_1 hczd_2 hfzd_2 hczd_3 hfzd_3 hczd_4 hfzd_4 hczd_5 hfzd_5;clear hczz_0 hfzz_0 hczz_1 hfzz_1 hczz_2 hfzz_2 hczz_3 hfzz_3 hczz_4 hfzz_4 hczz_5 hfzz_5;have n0_:=As.mk hI1;have n1_:=As.mk hB1;have n2_:=As.mk (show KeepBut w w8 g none from KeepBut.trans HK.out hK1 (.inl rfl));have n3_:=As.mk (hK1.blk BZ.out HNZ.out.symm (by simp));have n5_:=As.mk (hK1.blk BD.out HND.out.symm (by simp));have n6_:=As.mk (show gd < w8.heap.size from Nat.lt_of_lt_of_le HDL.out hK1.1);have n7_:=As.mk (Kd.R_keep HO.out hK1 (fun k hk=>by have:=HDW.out;have:=HGL.out;omega));clear HO;have HO:=n7_;clear n7_;clear BD HDL;have BD:=n5_;have HDL:=n6_;clear n5_ n6_;clear HI HB HK BZ hI1 hB1 hK1;have HI:=n0_;have HB:=n1_;have HK:=n2_;have BZ:=n3_;clear n0_ n1_ n2_ n3_;have hczd_0 : w8.cell? ⟨gd,0,none⟩ = some (.int .i64 kd):=(bC BD.out 0).trans rfl;have hczd_1 : w8.cell? ⟨gd,1,none⟩ = some (.string ⟨#[]⟩):=(bC BD.out 1).trans rfl;have hczd_2 : w8.cell? ⟨gd,2,none⟩ = some (.string ⟨#[]⟩):=(bC BD.out 2).trans rfl;have hczd_3 : w8.cell? ⟨gd,3,none⟩ = some (.slice none 0 0):=(bC BD.out 3).trans rfl;have hczd_4 : w8.cell? ⟨gd,4,none⟩ = some (.string ⟨#[]⟩):=(bC BD.out 4).trans rfl;have hczd_5 : w8.cell? ⟨gd,5,none⟩ = some (.string ⟨#[]⟩):=(bC BD.out 5).trans rfl;have hfzd_0:=bF BD.out 0;have hfzd_1:=bF BD.out 1;have hfzd_2:=bF BD.out 2;have hfzd_3:=bF BD.out 3;have hfzd_4:=bF BD.out 4;have hfzd_5:=bF BD.out 5;have hczz_0 : w8.cell? ⟨gz,0,none⟩ = some (.int .i64 0):=(bC BZ.out 0).trans rfl;have hczz_1 : w8.cell? ⟨gz,1,none⟩ = some (.string ⟨#[]⟩):=(bC BZ.out 1).trans rfl;have hczz_2 : w8.cell? ⟨gz,2,none⟩ = some (.string ⟨#[]⟩):=(bC BZ.out 2).trans rfl;have hczz_3 : w8.cell? ⟨gz,3,none⟩ = some (.slice none 0 0):=(bC BZ.out 3).trans rfl;have hczz_4 : w8.cell? ⟨gz,4,none⟩ = some (.string ⟨#[]⟩):=(bC BZ.out 4).trans rfl;have hczz_5 : w8.cell? ⟨gz,5,none⟩ = some (.string ⟨#[]⟩):=(bC BZ.out 5).trans rfl;have hfzz_0:=bF BZ.out 0;have hfzz_1:=bF BZ.out 1;have hfzz_2:=bF BZ.out 2;have hfzz_3:=bF BZ.out 3;have hfzz_4:=bF BZ.out 4;have hfzz_5:=bF BZ.out 5) | (go_at_call 102;(with_reducible refine (Nm.calls_args ?same (def_Right.calls K_ kd ⟨#[]⟩ ⟨#[]⟩ none 0 [] ⟨#[]⟩ ⟨#[]⟩ _ _ ?side1 ?side2 HRT.out)).mono ?_);(case same=>rfl);(case side1=>exact (Kd.R_reads' HO.out).2.2);(case side2=>exact HLV.out);rintro er w9 ⟨rfl,hb1⟩;have n0_:=As.mk (OcR.below HI.out hb1);have n1_:=As.mk (bS HB.out hb1);have n2_:=As.mk (KeepBut.trans HK.out (KeepBut.of_below hb1 g none) (.inl rfl));have n3_:=As.mk (blk_below BZ.out hb1);have n4_:=As.mk (blk_below BD.out hb1);have n5_:=As.mk (Kd.R_below HO.out hb1);clear HI HB HK BZ BD HO hb1;have HI:=n0_;have HB:=n1_;have HK:=n2_;have BZ:=n3_;have BD:=n4_;have HO:=n5_;clear n0_ n1_ n2_ n3_ n4_ n5_;clear hczd_0 hfzd_0 hczd_1 hfzd_1 hczd_2 hfzd_2 hczd_3 hfzd_3 hczd_4 hfzd_4 hczd_5 hfzd_5;clear hczz_0 hfzz_0 hczz_1 hfzz_1 hczz_2 hfzz_2 hczz_3 hfzz_3 hczz_4 hfzz_4 hczz_5 hfzz_5;have hczd_0 : w9.cell? ⟨gd,0,none⟩ = some (.int .i64 kd):=(bC BD.out 0).trans rfl;have hczd_1 : w9.cell? ⟨gd,1,none⟩ = some (.string ⟨#[]⟩):=(bC BD.out 1).trans rfl;have hczd_2 : w9.cell? ⟨gd,2,none⟩ = some (.string ⟨#[]⟩):=(bC BD.out 2).trans rfl;have hczd_3 : w9.cell? ⟨gd,3,none⟩ = some (.slice none 0 0):=(bC BD.out 3).trans rfl;have hczd_4 : w9.cell? ⟨gd,4,none⟩ = some (.string ⟨#[]⟩):=(bC BD.out 4).trans rfl;have hczd_5 : w9.cell? ⟨gd,5,none⟩ = some (.string ⟨#[]⟩):=(bC BD.out 5).trans rfl;have hfzd_0:=bF BD.out 0;have hfzd_1:=bF BD.out 1;have hfzd_2:=bF BD.out 2;have hfzd_3:=bF BD.out 3;have hfzd_4:=bF BD.out 4;have hfzd_5:=bF BD.out 5;have hczz_0 : w9.cell? ⟨gz,0,none⟩ = some (.int .i64 0):=(bC BZ.out 0).trans rfl;have hczz_1 : w9.cell? ⟨gz,1,none⟩ = some (.string ⟨#[]⟩):=(bC BZ.out 1).trans rfl;have hczz_2 : w9.cell? ⟨gz,2,none⟩ = some (.string ⟨#[]⟩):=(bC BZ.out 2).trans rfl;have hczz_3 : w9.cell? ⟨gz,3,none⟩ = some (.slice none 0 0):=(bC BZ.out 3).trans rfl;have hczz_4 : w9.cell? ⟨gz,4,none⟩ = some (.string ⟨#[]⟩):=(bC BZ.out 4).trans rfl;have hczz_5 : w9.cell? ⟨gz,5,none⟩ = some (.string ⟨#[]⟩):=(bC BZ.out 5).trans rfl;have hfzz_0:=bF BZ.out 0;have hfzz_1:=bF BZ.out 1;have hfzz_2:=bF BZ.out 2;have hfzz_3:=bF BZ.out 3;have hfzz_4:=bF BZ.out 4;have hfzz_5:=bF BZ.out 5))
    (try simp only [Exit.inBlock,Exit.then])
    refine bodyPost_ret (v:=.tuple #[.agg #[.int .i64 0,.string ⟨#[]⟩,.string ⟨#[]⟩,.slice none 0 0,.string ⟨#[]⟩,.string ⟨#[]⟩],.int .i64 31]) ?_ rfl ?_
    ·rw [results_cell_tmp rfl]
     go_simp
    rw [QR.out,finR_not Z1.out HDR.out]
    exact ⟨_,rfl,Kd.R_nil _ _ _ _ _,(by repeat (first | (with_reducible first | exact HI.out | apply OcR.drew | refine OcR.far ?_ HNZ.out _) | exact HI.out)),(by repeat (first | (with_reducible first | exact HB.out | apply bD | refine bT ?_ HZ0.out) | exact HB.out)),(by repeat (first | (with_reducible first | exact HK.out | refine keep_far ?_ HZW.out _ | apply keep_drew) | exact HK.out))⟩
    | true =>
    go_wp2_with (first | (go_at_call 97;(with_reducible refine (err_calls g b1 e1 w0 _ ?sideI ?sideB).mono ?_);(case sideI=>exact HI.out);(case sideB=>exact HB.out);rintro er w8 ⟨rfl,hI1,hB1,hK1⟩;clear hczd_0 hfzd_0 hczd_1 hfzd_1 hczd_2 hfzd_2 hczd_3 hfzd_3 hczd_4 hfzd_4 hczd_5 hfzd_5;clear hczz_0 hfzz_0 hczz_1 hfzz_1 hczz_2 hfzz_2 hczz_3 hfzz_3 hczz_4 hfzz_4 hczz_5 hfzz_5;have n0_:=As.mk hI1;have n1_:=As.mk hB1;have n2_:=As.mk (show KeepBut w w8 g none from KeepBut.trans HK.out hK1 (.inl rfl));have n3_:=As.mk (hK1.blk BZ.out HNZ.out.symm (by simp));have n5_:=As.mk (hK1.blk BD.out HND.out.symm (by simp));have n6_:=As.mk (show gd < w8.heap.size from Nat.lt_of_lt_of_le HDL.out hK1.1);have n7_:=As.mk (Kd.R_keep HO.out hK1 (fun k hk=>by have:=HDW.out;have:=HGL.out;omega));clear HO;have HO:=n7_;clear n7_;clear BD HDL;have BD:=n5_;have HDL:=n6_;clear n5_ n6_;clear HI HB HK BZ hI1 hB1 hK1;have HI:=n0_;have HB:=n1_;have HK:=n2_;have BZ:=n3_;clear n0_ n1_ n2_ n3_;have hczd_0 : w8.cell? ⟨gd,0,none⟩ = some (.int .i64 kd):=(bC BD.out 0).trans rfl;have hczd_1 : w8.cell? ⟨gd,1,none⟩ = some (.string ⟨#[]⟩):=(bC BD.out 1).trans rfl;have hczd_2 : w8.cell? ⟨gd,2,none⟩ = some (.string ⟨#[]⟩):=(bC BD.out 2).trans rfl;have hczd_3 : w8.cell? ⟨gd,3,none⟩ = some (.slice none 0 0):=(bC BD.out 3).trans rfl;have hczd_4 : w8.cell? ⟨gd,4,none⟩ = some (.string ⟨#[]⟩):=(bC BD.out 4).trans rfl;have hczd_5 : w8.cell? ⟨gd,5,none⟩ = some (.string ⟨#[]⟩):=(bC BD.out 5).trans rfl;have hfzd_0:=bF BD.out 0;have hfzd_1:=bF BD.out 1;have hfzd_2:=bF BD.out 2;have hfzd_3:=bF BD.out 3;have hfzd_4:=bF BD.out 4;have hfzd_5:=bF BD.out 5;have hczz_0 : w8.cell? ⟨gz,0,none⟩ = some (.int .i64 0):=(bC BZ.out 0).trans rfl;have hczz_1 : w8.cell? ⟨gz,1,none⟩ = some (.string ⟨#[]⟩):=(bC BZ.out 1).trans rfl;have hczz_2 : w8.cell? ⟨gz,2,none⟩ = some (.string ⟨#[]⟩):=(bC BZ.out 2).trans rfl;have hczz_3 : w8.cell? ⟨gz,3,none⟩ = some (.slice none 0 0):=(bC BZ.out 3).trans rfl;have hczz_4 : w8.cell? ⟨gz,4,none⟩ = some (.string ⟨#[]⟩):=(bC BZ.out 4).trans rfl;have hczz_5 : w8.cell? ⟨gz,5,none⟩ = some (.string ⟨#[]⟩):=(bC BZ.out 5).trans rfl;have hfzz_0:=bF BZ.out 0;have hfzz_1:=bF BZ.out 1;have hfzz_2:=bF BZ.out 2;have hfzz_3:=bF BZ.out 3;have hfzz_4:=bF BZ.out 4;have hfzz_5:=bF BZ.out 5) | (go_at_call 102;(with_reducible refine (Nm.calls_args ?same (def_Right.calls K_ kd ⟨#[]⟩ ⟨#[]⟩ none 0 [] ⟨#[]⟩ ⟨#[]⟩ _ _ ?side1 ?side2 HRT.out)).mono ?_);(case same=>rfl);(case side1=>exact (Kd.R_reads' HO.out).2.2);(case side2=>exact HLV.out);rintro er w9 ⟨rfl,hb1⟩;have n0_:=As.mk (OcR.below HI.out hb1);have n1_:=As.mk (bS HB.out hb1);have n2_:=As.mk (KeepBut.trans HK.out (KeepBut.of_below hb1 g none) (.inl rfl));have n3_:=As.mk (blk_below BZ.out hb1);have n4_:=As.mk (blk_below BD.out hb1);have n5_:=As.mk (Kd.R_below HO.out hb1);clear HI HB HK BZ BD HO hb1;have HI:=n0_;have HB:=n1_;have HK:=n2_;have BZ:=n3_;have BD:=n4_;have HO:=n5_;clear n0_ n1_ n2_ n3_ n4_ n5_;clear hczd_0 hfzd_0 hczd_1 hfzd_1 hczd_2 hfzd_2 hczd_3 hfzd_3 hczd_4 hfzd_4 hczd_5 hfzd_5;clear hczz_0 hfzz_0 hczz_1 hfzz_1 hczz_2 hfzz_2 hczz_3 hfzz_3 hczz_4 hfzz_4 hczz_5 hfzz_5;have hczd_0 : w9.cell? ⟨gd,0,none⟩ = some (.int .i64 kd):=(bC BD.out 0).trans rfl;have hczd_1 : w9.cell? ⟨gd,1,none⟩ = some (.string ⟨#[]⟩):=(bC BD.out 1).trans rfl;have hczd_2 : w9.cell? ⟨gd,2,none⟩ = some (.string ⟨#[]⟩):=(bC BD.out 2).trans rfl;have hczd_3 : w9.cell? ⟨gd,3,none⟩ = some (.slice none 0 0):=(bC BD.out 3).trans rfl;have hczd_4 : w9.cell? ⟨gd,4,none⟩ = some (.string ⟨#[]⟩):=(bC BD.out 4).trans rfl;have hczd_5 : w9.cell? ⟨gd,5,none⟩ = some (.string ⟨#[]⟩):=(bC BD.out 5).trans rfl;have hfzd_0:=bF BD.out 0;have hfzd_1:=bF BD.out 1;have hfzd_2:=bF BD.out 2;have hfzd_3:=bF BD.out 3;have hfzd_4:=bF BD.out 4;have hfzd_5:=bF BD.out 5;have hczz_0 : w9.cell? ⟨gz,0,none⟩ = some (.int .i64 0):=(bC BZ.out 0).trans rfl;have hczz_1 : w9.cell? ⟨gz,1,none⟩ = some (.string ⟨#[]⟩):=(bC BZ.out 1).trans rfl;have hczz_2 : w9.cell? ⟨gz,2,none⟩ = some (.string ⟨#[]⟩):=(bC BZ.out 2).trans rfl;have hczz_3 : w9.cell? ⟨gz,3,none⟩ = some (.slice none 0 0):=(bC BZ.out 3).trans rfl;have hczz_4 : w9.cell? ⟨gz,4,none⟩ = some (.string ⟨#[]⟩):=(bC BZ.out 4).trans rfl;have hczz_5 : w9.cell? ⟨gz,5,none⟩ = some (.string ⟨#[]⟩):=(bC BZ.out 5).trans rfl;have hfzz_0:=bF BZ.out 0;have hfzz_1:=bF BZ.out 1;have hfzz_2:=bF BZ.out 2;have hfzz_3:=bF BZ.out 3;have hfzz_4:=bF BZ.out 4;have hfzz_5:=bF BZ.out 5))
    (try simp only [Exit.inBlock,Exit.then])
    refine bodyPost_ret (v:=.tuple #[.agg #[.int .i64 kd,.string ⟨#[]⟩,.string ⟨#[]⟩,.slice none 0 0,.string ⟨#[]⟩,.string ⟨#[]⟩],.int .i64 0]) ?_ rfl ?_
    ·rw [results_cell_tmp rfl]
     go_simp
    rw [QR.out,finR_good Z1.out HDR.out]
    exact ⟨_,rfl,Kd.R_mono (by repeat (first | (with_reducible first | exact HO.out) | refine Kd.R_far (ok:=fun k=>gd < k) ?_ (fun k hk=>by show k ≠ gz;have h_ : gd < k:=hk;have:=HZLT.out;omega) _ | exact HO.out)) (fun k hk=>by have:=HDW.out;have hk2 : gd < k:=hk;omega),(by repeat (first | (with_reducible first | exact HI.out | apply OcR.drew | refine OcR.far ?_ HNZ.out _) | exact HI.out)),(by repeat (first | (with_reducible first | exact HB.out | apply bD | refine bT ?_ HZ0.out) | exact HB.out)),(by repeat (first | (with_reducible first | exact HK.out | refine keep_far ?_ HZW.out _ | apply keep_drew) | exact HK.out))⟩
   ·have z1a : (e1 != 0) = true:=bne_iff_ne.mpr z1
    have z1b : (e1 == 0) = false:=beq_eq_false_iff_ne.mpr z1
    go_wp2_with (first | (go_at_call 97;(with_reducible refine (err_calls g b1 e1 w0 _ ?sideI ?sideB).mono ?_);(case sideI=>exact HI.out);(case sideB=>exact HB.out);rintro er w8 ⟨rfl,hI1,hB1,hK1⟩;clear hczd_0 hfzd_0 hczd_1 hfzd_1 hczd_2 hfzd_2 hczd_3 hfzd_3 hczd_4 hfzd_4 hczd_5 hfzd_5;clear hczz_0 hfzz_0 hczz_1 hfzz_1 hczz_2 hfzz_2 hczz_3 hfzz_3 hczz_4 hfzz_4 hczz_5 hfzz_5;have n0_:=As.mk hI1;have n1_:=As.mk hB1;have n2_:=As.mk (show KeepBut w w8 g none from KeepBut.trans HK.out hK1 (.inl rfl));have n3_:=As.mk (hK1.blk BZ.out HNZ.out.symm (by simp));have n5_:=As.mk (hK1.blk BD.out HND.out.symm (by simp));have n6_:=As.mk (show gd < w8.heap.size from Nat.lt_of_lt_of_le HDL.out hK1.1);have n7_:=As.mk (Kd.R_keep HO.out hK1 (fun k hk=>by have:=HDW.out;have:=HGL.out;omega));clear HO;have HO:=n7_;clear n7_;clear BD HDL;have BD:=n5_;have HDL:=n6_;clear n5_ n6_;clear HI HB HK BZ hI1 hB1 hK1;have HI:=n0_;have HB:=n1_;have HK:=n2_;have BZ:=n3_;clear n0_ n1_ n2_ n3_;have hczd_0 : w8.cell? ⟨gd,0,none⟩ = some (.int .i64 kd):=(bC BD.out 0).trans rfl;have hczd_1 : w8.cell? ⟨gd,1,none⟩ = some (.string ⟨#[]⟩):=(bC BD.out 1).trans rfl;have hczd_2 : w8.cell? ⟨gd,2,none⟩ = some (.string ⟨#[]⟩):=(bC BD.out 2).trans rfl;have hczd_3 : w8.cell? ⟨gd,3,none⟩ = some (.slice none 0 0):=(bC BD.out 3).trans rfl;have hczd_4 : w8.cell? ⟨gd,4,none⟩ = some (.string ⟨#[]⟩):=(bC BD.out 4).trans rfl;have hczd_5 : w8.cell? ⟨gd,5,none⟩ = some (.string ⟨#[]⟩):=(bC BD.out 5).trans rfl;have hfzd_0:=bF BD.out 0;have hfzd_1:=bF BD.out 1;have hfzd_2:=bF BD.out 2;have hfzd_3:=bF BD.out 3;have hfzd_4:=bF BD.out 4;have hfzd_5:=bF BD.out 5;have hczz_0 : w8.cell? ⟨gz,0,none⟩ = some (.int .i64 0):=(bC BZ.out 0).trans rfl;have hczz_1 : w8.cell? ⟨gz,1,none⟩ = some (.string ⟨#[]⟩):=(bC BZ.out 1).trans rfl;have hczz_2 : w8.cell? ⟨gz,2,none⟩ = some (.string ⟨#[]⟩):=(bC BZ.out 2).trans rfl;have hczz_3 : w8.cell? ⟨gz,3,none⟩ = some (.slice none 0 0):=(bC BZ.out 3).trans rfl;have hczz_4 : w8.cell? ⟨gz,4,none⟩ = some (.string ⟨#[]⟩):=(bC BZ.out 4).trans rfl;have hczz_5 : w8.cell? ⟨gz,5,none⟩ = some (.string ⟨#[]⟩):=(bC BZ.out 5).trans rfl;have hfzz_0:=bF BZ.out 0;have hfzz_1:=bF BZ.out 1;have hfzz_2:=bF BZ.out 2;have hfzz_3:=bF BZ.out 3;have hfzz_4:=bF BZ.out 4;have hfzz_5:=bF BZ.out 5))
    (try simp only [Exit.inBlock,Exit.then])
    refine bodyPost_ret (v:=.tuple #[.agg #[.int .i64 0,.string ⟨#[]⟩,.string ⟨#[]⟩,.slice none 0 0,.string ⟨#[]⟩,.string ⟨#[]⟩],.int .i64 e1]) ?_ rfl ?_
    ·rw [results_cell_tmp rfl]
     go_simp
    rw [QR.out,finR_err z1]
    exact ⟨_,rfl,Kd.R_nil _ _ _ _ _,(by repeat (first | (with_reducible first | exact HI.out | apply OcR.drew | refine OcR.far ?_ HNZ.out _) | exact HI.out)),(by repeat (first | (with_reducible first | exact HB.out | apply bD | refine bT ?_ HZ0.out) | exact HB.out)),(by repeat (first | (with_reducible first | exact HK.out | refine keep_far ?_ HZW.out _ | apply keep_drew) | exact HK.out))⟩
end Go.Proofs.YtmlebgikdegjjaaGreatDoor.Hd
