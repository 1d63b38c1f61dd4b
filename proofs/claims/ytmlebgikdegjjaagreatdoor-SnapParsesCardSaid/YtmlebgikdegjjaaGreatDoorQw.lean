/- Octet's writer, walked. -/
import Derived.Test.YtmlebgikdegjjaaGreatDoorQb
import Derived.Test.YtmlebgikdegjjaaGreatDoorPAllx16
set_option maxHeartbeats 16000000
set_option maxRecDepth 100000
namespace Go.Proofs.YtmlebgikdegjjaaGreatDoor.Hd
open Go.RowKit Go.Proofs.YtmlebgikdegjjaaGreatDoorW.PrintWords Go.Proofs.YtmlebgikdegjjaaGreatDoorW.PrintLast Go.Proofs.YtmlebgikdegjjaaGreatDoorW.PrintMore Go.Proofs.YtmlebgikdegjjaaGreatDoor.PAll
attribute [local go_sem] max2_int min2_int max_two min_two max_three min_three max_four min_four
set_option linter.unusedVariables false
set_option linter.unusedSimpArgs false
def KeepT (g : Nat) (w w' : World) : Prop:=w.heap.size ≤ w'.heap.size ∧ ∀ (i : Nat) (o : Obj),w.heap[i]? = some o → i ≠ g → (∀ c,o ≠ .cells c 5 (0,0)) → w'.heap[i]? = some o
theorem KeepT.refl (g : Nat) (w : World) : KeepT g w w:=⟨Nat.le_refl _,fun _ _ h _ _=>h⟩
theorem KeepT.trans {g : Nat} {w w1 w2 : World} (h : KeepT g w w1) (k : KeepT g w1 w2) : KeepT g w w2:=⟨Nat.le_trans h.1 k.1,fun i o hi hg ho=>k.2 i o (h.2 i o hi hg ho) hg ho⟩
theorem KeepT.set_ {g : Nat} {w w1 : World} (h : KeepT g w w1) (j : Nat) (u : Value) : KeepT g w (w1.setCell ⟨g,j,none⟩ u) :=
 ⟨by simpa [World.setCell] using h.1,fun i o hi hg ho=>(Below.heap_setCell w1 ⟨g,j,none⟩ u i hg).trans (h.2 i o hi hg ho)⟩
theorem KeepT.drew {g : Nat} {w w1 : World} (h : KeepT g w w1) : KeepT g w w1.drew:=h
theorem KeepT.drewN {g : Nat} {w w1 : World} (h : KeepT g w w1) (m : Nat) : KeepT g w (w1.drewN m):=h
theorem KeepT.below {g : Nat} {w w1 w2 : World} (h : KeepT g w w1) (k : Below w1.heap.size w1 w2) : KeepT g w w2:=⟨Nat.le_trans h.1 k.size,fun i o hi hg ho=>blk_below (h.2 i o hi hg ho) k⟩
theorem KeepT.alloc {g : Nat} {w w1 : World} (h : KeepT g w w1) (o : Obj) : KeepT g w (w1.alloc o):=h.below (bA (Below.refl _ _) o)
def WrR (w0 w : World) (g : Nat) (bs : List Int) (e : Int) : Prop:=∃ vv,w.heap[g]? = some (.cells #[vv,.int .i64 e] 105 (0,0)) ∧ w0.heap.size ≤ g ∧ Kd.R (Kd.int .u8) 5 w w0.heap.size (fun _=>True) vv bs
theorem row_ne {w : World} {base g : Nat} {vv : Value} {bs : List Int} {ok : Nat → Prop} {t : TypeId} {c : Array Value} (h : Kd.R (Kd.int .u8) 5 w base ok vv bs) (hb : w.heap[g]? = some (.cells c t (0,0))) (ht : t ≠ 5) : some g ≠ vv.ownBlock:=by
 intro he
 obtain ⟨_,inner,ho,_⟩:=h
 obtain ⟨c',hc⟩:=own_typed ho g he.symm
 rw [hb] at hc
 injection hc with hc
 injection hc with _ h2
 exact ht h2
theorem KeepT.grown {g : Nat} {w w1 w2 : World} {base : Nat} {vv : Value} {bs : List Int} {ok : Nat → Prop} (h : KeepT g w w1) (hr : Kd.R (Kd.int .u8) 5 w1 base ok vv bs) (k : w1.grownBy w2 vv.ownBlock) : KeepT g w w2 :=
 ⟨Nat.le_trans h.1 k.size,fun i o hi hg ho=>blk_grown (h.2 i o hi hg ho) k (fun he=>by
  obtain ⟨_,inner,hw,_⟩:=hr
  obtain ⟨c',hc⟩:=own_typed hw i he.symm
  exact ho c' (Option.some.inj ((h.2 i o hi hg ho).symm.trans hc)))⟩
theorem row_far {w : World} {base g j : Nat} {vv u : Value} {bs : List Int} {ok : Nat → Prop} {t : TypeId} {c : Array Value} (h : Kd.R (Kd.int .u8) 5 w base ok vv bs) (hb : w.heap[g]? = some (.cells c t (0,0))) (ht : t ≠ 5) : Kd.R (Kd.int .u8) 5 (w.setCell ⟨g,j,none⟩ u) base ok vv bs :=
 Kd.R_mono (Kd.R_far (p:=⟨g,j,none⟩) (Kd.R_types h hb (fun q hq=>by
  have : q = 5:=by simpa [Kd.int,Kd.scalar] using hq
  subst this
  exact fun e=>ht e.symm)) (fun k hk=>hk.2) u) (fun _ hk=>hk.1)
theorem WrR.ge {w0 w : World} {g : Nat} {bs : List Int} {e : Int} (h : WrR w0 w g bs e) : w0.heap.size ≤ g:=by
 obtain ⟨vv,h1,h2,h3⟩:=h
 exact h2
theorem WrR.lt {w0 w : World} {g : Nat} {bs : List Int} {e : Int} (h : WrR w0 w g bs e) : g < w.heap.size:=by
 obtain ⟨vv,h1,h2,h3⟩:=h
 exact blk_lt h1
theorem WrR.below {w0 w w' : World} {g : Nat} {bs : List Int} {e : Int} (h : WrR w0 w g bs e) (hb : Below w.heap.size w w') : WrR w0 w' g bs e:=by
 obtain ⟨vv,h1,h2,h3⟩:=h
 exact ⟨vv,blk_below h1 hb,h2,Kd.R_below h3 hb⟩
theorem WrR.drewN {w0 w : World} {g : Nat} {bs : List Int} {e : Int} (h : WrR w0 w g bs e) (m : Nat) : WrR w0 (w.drewN m) g bs e:=h.below (bN (Below.refl _ _) m)
theorem WrR.drew {w0 w : World} {g : Nat} {bs : List Int} {e : Int} (h : WrR w0 w g bs e) : WrR w0 w.drew g bs e:=h.below (bD (Below.refl _ _))
theorem WrR.err {w0 w : World} {g : Nat} {bs : List Int} {e : Int} (h : WrR w0 w g bs e) (x : Int) : WrR w0 (w.setCell ⟨g,1,none⟩ (.int .i64 x)) g bs x:=by
 obtain ⟨vv,h1,h2,h3⟩:=h
 exact ⟨vv,by simpa using blk_set h1 1 (.int .i64 x),h2,row_far h3 h1 (by decide)⟩
theorem WrR.row {w0 w : World} {g : Nat} {bs' : List Int} {e : Int} {vv v : Value} (h1 : w.heap[g]? = some (.cells #[vv,.int .i64 e] 105 (0,0))) (h2 : w0.heap.size ≤ g) (h3 : Kd.R (Kd.int .u8) 5 w w0.heap.size (fun _=>True) v bs') : WrR w0 (w.setCell ⟨g,0,none⟩ v) g bs' e :=
 ⟨v,by simpa using blk_set h1 0 v,h2,row_far h3 h1 (by decide)⟩
def be4 (n : Int) : List Int:=[n / 16777216 % 256,n / 65536 % 256,n / 256 % 256,n % 256]
def bytesN (s : ByteArray) : List Int:=s.data.toList.map fun b=>(b.toNat : Int)
def textO (s : ByteArray) : List Int:=be4 s.size ++ bytesN s
def wput.T3 : Bool × List (List Nat × List Nat):=(true,[([],[]),([],[]),([1],[1]),([2],[2]),([3],[3]),([],[]),([],[]),([6],[6]),([5,7],[5,7]),([8],[8]),([9],[9]),([4,10],[4,10]),([0,0,1,2,3,4,5,6,7,8,9,10,11],[0]),([12,0,1,2,3,4,5,6,7,8,9,10,11],[12]),([13,11,11,0,1,2,3,4,5,6,7,8,9,10,11],[11,13])])
def wput.B3 : List Nat:=[0,0,2,6,14,0,0,64,224,480,992,2046,4095,8191,16383]
theorem wput.tab3 : rtab .any (opsOf Tryz.f117 3) = wput.T3:=by kernel_rfl
theorem wput.bits3 : waitsOk wput.T3.2 wput.B3 = true:=by kernel_rfl
theorem w64_24 : wrap64 24 = 24:=by kernel_rfl
theorem w64_16 : wrap64 16 = 16:=by kernel_rfl
theorem w64_8 : wrap64 8 = 8:=by kernel_rfl
theorem w64_0 : wrap64 0 = 0:=by kernel_rfl
attribute [local go_sem] w64_24 w64_16 w64_8 w64_0
theorem put_good (g : Nat) (bs : List Int) (n : Int) (h0 : 0 ≤ n) (h1 : n < 4294967296) (hl : bs.length ≤ 100000000000000) (w0 w : World) (hI : WrR w0 w g bs 0) (hB : Below w0.heap.size w0 w) :
  Calls Tryz.prog 117 #[.pointer (some ⟨g,0,none⟩),.int .u64 n,.int .i64 4] w fun r w'=>r = .returned (.tuple #[]) ∧ WrR w0 w' g (bs ++ be4 n) 0 ∧ Below w0.heap.size w0 w' ∧ KeepT g w w':=by
 have HI:=As.mk hI
 have HB:=As.mk hB
 have HK:=As.mk (KeepT.refl g w)
 clear hI hB
 have HL:=As.mk hl
 have HGE:=As.mk HI.out.ge
 clear hl
 go_enter Tryz.func117,Tryz.ntmps117
 go_wp2_with (fail)
 go_loopg [6] 4 (fun kq v6 w'=>∃ (x : Int) (bx : List Int),v6 = .int .i64 x ∧ -1 ≤ x ∧ x ≤ 3 ∧ As ((kq : Int) = x + 1) ∧ As (bx = bs ++ (be4 n).take (3 - x).toNat) ∧ As (WrR w0 w' g bx 0) ∧ As (Below w0.heap.size w0 w') ∧ As (KeepT g w w'))
 case atStart=>exact ⟨3,bs,rfl,by omega,by omega,⟨by omega⟩,⟨by simp⟩,HI,HB,HK⟩
 case round =>
  clear HB HI HK
  obtain ⟨x,bx,rfl,p0,p1,HKQ,HBX,HI,HB,HK⟩:=hrel
  have HLX:=As.mk (show bx.length ≤ 100000000000004 by rw [HBX.out,List.length_append,List.length_take];have:=HL.out;omega)
  obtain ⟨vv,hg_,hge_,hr_⟩:=HI.out
  have BK:=As.mk hg_
  have HGE:=As.mk hge_
  have HO:=As.mk hr_
  have hcz_0 : wr.cell? ⟨g,0,none⟩ = some vv:=(bC hg_ 0).trans rfl
  have hcz_1 : wr.cell? ⟨g,1,none⟩ = some (.int .i64 0):=(bC hg_ 1).trans rfl
  have hfz_0:=bF hg_ 0
  have hfz_1:=bF hg_ 1
  clear hg_ hge_ hr_
  by_cases hx0 : 0 ≤ x
  ·have c0 : decide (0 ≤ x) = true:=decide_eq_true hx0
   have hq : x = 3 ∨ x = 2 ∨ x = 1 ∨ x = 0:=by omega
   clear hx0 p0 p1
   rcases hq with hq | hq | hq | hq
   ·have hx : x = 3:=by omega
    subst hx
    have HC1:=As.mk (show bx = bs ++ (be4 n).take 0 from HBX.out)
    go_upto_region 3 with (fail)
    refine start_ (n:=15) (S:=fun w'=>w'.cell? ⟨g,0,none⟩ = some vv) (ds:=[14]) #[false,false,false,false,false,false,false,false,false,false,false,false,false,false,false] (by kernel_rfl) rfl rfl ((bC BK.out 0).trans rfl) (fun hHeld=>?_);refine with_tabW wput.tab3 wput.bits3 (fun HT_ HW_=>?_)
    have y0_:=As.mk (kD BK.out)
    have y1_:=As.mk (Kd.R_below HO.out (bD (Below.refl _ _)))
    have y2_:=As.mk (bD HB.out)
    have y3_:=As.mk (KeepT.drew HK.out)
    clear BK HO HB HK HI hcz_0 hcz_1 hfz_0 hfz_1
    generalize wr.drew = wy at y0_ y1_ y2_ y3_ hHeld ⊢
    have BK:=y0_
    have HO:=y1_
    have HB:=y2_
    have HK:=y3_
    clear y0_ y1_ y2_ y3_
    refine pure_ (i:=0) (N:=some 20) (v:=?_) (a':=?_) #[true,false,false,false,false,false,false,false,false,false,false,false,false,false,false] rfl rfl (any_of HT_.out (by kernel_rfl)) (fun _ _ _ h=>h) (Or.inl ⟨by rfl,?_⟩) ?_ ?_
    rotate_left
    ·intro w'
     go_simp
     with_reducible rfl
    rotate_left
    ·simp only [Act.put,List.setIfInBounds_toArray,List.set_cons_zero,List.set_cons_succ,i64_w,i32_w]
     rfl
    refine pure_ (i:=1) (N:=some 21) (v:=?_) (a':=?_) #[true,true,false,false,false,false,false,false,false,false,false,false,false,false,false] rfl rfl (any_of HT_.out (by kernel_rfl)) (fun _ _ _ h=>h) (Or.inl ⟨by rfl,?_⟩) ?_ ?_
    rotate_left
    ·intro w'
     go_simp
     with_reducible rfl
    rotate_left
    ·simp only [Act.put,List.setIfInBounds_toArray,List.set_cons_zero,List.set_cons_succ,i64_w,i32_w]
     rfl
    refine pure_ (i:=2) (N:=some 22) (v:=?_) (a':=?_) #[true,true,true,false,false,false,false,false,false,false,false,false,false,false,false] rfl rfl (any_of HT_.out (by kernel_rfl)) (fun _ _ _ h=>h) (Or.inl ⟨by rfl,?_⟩) ?_ ?_
    rotate_left
    ·intro w'
     go_simp
     with_reducible rfl
    rotate_left
    ·simp only [Act.put,List.setIfInBounds_toArray,List.set_cons_zero,List.set_cons_succ,i64_w,i32_w]
     rfl
    refine pure_ (i:=3) (N:=some 23) (v:=?_) (a':=?_) #[true,true,true,true,false,false,false,false,false,false,false,false,false,false,false] rfl rfl (any_of HT_.out (by kernel_rfl)) (fun _ _ _ h=>h) (Or.inl ⟨by rfl,?_⟩) ?_ ?_
    rotate_left
    ·intro w'
     go_simp
     with_reducible rfl
    rotate_left
    ·simp only [Act.put,List.setIfInBounds_toArray,List.set_cons_zero,List.set_cons_succ,i64_w,i32_w]
     rfl
    refine take_ (i:=4) (N:=some 24) (v:=?_) (a':=?_) #[true,true,true,true,true,false,false,false,false,false,false,false,false,false,false] rfl rfl (take_ofW HT_.out HW_.out (by kernel_rfl)) (fun _ _ _ h=>h) (Or.inl ⟨by rfl,?_⟩) hHeld ?_ ?_
    rotate_left
    ·rintro w' s0
     go_simp
     with_reducible rfl
    rotate_left
    ·simp only [Act.put,List.setIfInBounds_toArray,List.set_cons_zero,List.set_cons_succ,i64_w,i32_w]
     rfl
    refine pure_ (i:=5) (N:=some 25) (v:=?_) (a':=?_) #[true,true,true,true,true,true,false,false,false,false,false,false,false,false,false] rfl rfl (any_of HT_.out (by kernel_rfl)) (fun _ _ _ h=>h) (Or.inl ⟨by rfl,?_⟩) ?_ ?_
    rotate_left
    ·intro w'
     go_simp
     with_reducible rfl
    rotate_left
    ·simp only [Act.put,List.setIfInBounds_toArray,List.set_cons_zero,List.set_cons_succ,i64_w,i32_w]
     rfl
    refine pure_ (i:=6) (N:=some 26) (v:=?_) (a':=?_) #[true,true,true,true,true,true,true,false,false,false,false,false,false,false,false] rfl rfl (any_of HT_.out (by kernel_rfl)) (fun _ _ _ h=>h) (Or.inl ⟨by rfl,?_⟩) ?_ ?_
    rotate_left
    ·intro w'
     go_simp
     with_reducible rfl
    rotate_left
    ·simp only [Act.put,List.setIfInBounds_toArray,List.set_cons_zero,List.set_cons_succ,i64_w,i32_w]
     rfl
    refine pure_ (i:=7) (N:=some 27) (v:=?_) (a':=?_) #[true,true,true,true,true,true,true,true,false,false,false,false,false,false,false] rfl rfl (any_of HT_.out (by kernel_rfl)) (fun _ _ _ h=>h) (Or.inl ⟨by rfl,?_⟩) ?_ ?_
    rotate_left
    ·intro w'
     go_simp
     with_reducible rfl
    rotate_left
    ·simp only [Act.put,List.setIfInBounds_toArray,List.set_cons_zero,List.set_cons_succ,i64_w,i32_w]
     rfl
    refine pure_ (i:=8) (N:=some 28) (v:=?_) (a':=?_) #[true,true,true,true,true,true,true,true,true,false,false,false,false,false,false] rfl rfl (any_of HT_.out (by kernel_rfl)) (fun _ _ _ h=>h) (Or.inl ⟨by rfl,?_⟩) ?_ ?_
    rotate_left
    ·intro w'
     go_simp
     with_reducible rfl
    rotate_left
    ·simp only [Act.put,List.setIfInBounds_toArray,List.set_cons_zero,List.set_cons_succ,i64_w,i32_w]
     rfl
    refine pure_ (i:=9) (N:=some 29) (v:=?_) (a':=?_) #[true,true,true,true,true,true,true,true,true,true,false,false,false,false,false] rfl rfl (any_of HT_.out (by kernel_rfl)) (fun _ _ _ h=>h) (Or.inl ⟨by rfl,?_⟩) ?_ ?_
    rotate_left
    ·intro w'
     go_simp
     with_reducible rfl
    rotate_left
    ·simp only [Act.put,List.setIfInBounds_toArray,List.set_cons_zero,List.set_cons_succ,i64_w,i32_w]
     rfl
    refine one_ (i:=10) (N:=some 30) #[true,true,true,true,true,true,true,true,true,true,true,false,false,false,false] rfl rfl (one_of HT_.out (by kernel_rfl)) (by decide) (fun K hK=>?_)
    refine value_ (w1:=?_) (v:=?_) (by rfl) rfl ?_ ?_
    rotate_left 2
    ·go_simp
     constructor
     ·rfl
     ·rfl
    refine hK.out _ _ ((bC (kA BK.out _) 0).trans rfl) (fun hHeld=>?_)
    clear hK K
    refine norm_ (a':=?_) ?_ ?_
    rotate_left
    ·show Act.put _ (some 30) _ = _
     simp only [Act.put,List.setIfInBounds_toArray,List.set_cons_zero,List.set_cons_succ,i64_w,i32_w]
     rfl
    refine one_ (i:=11) (N:=some 31) #[true,true,true,true,true,true,true,true,true,true,true,true,false,false,false] rfl rfl (one_of HT_.out (by kernel_rfl)) (by decide) (fun K hK=>?_)
    refine Kd.R_append_step (Kd.int .u8) (w0:=w0) w0.heap.size (by rfl) (.tmp 24) (.tmp 30) 54 5 (.int .u8 0) 1 rfl Tryz.underlying54 infoU8_ rfl (by decide) (by decide) vv bx (IntKind.u8.wrap (n / 16777216)) [.int .u8 (IntKind.u8.wrap (n / 16777216))] (fun _=>True) (fun _=>False) (by rfl) (by rfl) ?aP (fun _ hk=>hk.elim) (fun _ _=>trivial) HO.out HB.out HB.out.size (by have:=HLX.out;omega) ?_
    case aP=>exact rfl
    intro v9 w9 ho hb_ hg_ hat_
    obtain ⟨A9,n9,c9,rfl⟩ : ∃ A n c,v9 = Value.slice A n c:=by obtain ⟨A,c,h,_⟩:=Kd.R_reads ho;exact ⟨A,_,c,h⟩
    have y0_:=As.mk (blk_grown BK.out hg_ (row_ne HO.out BK.out (by decide)))
    have y1_:=As.mk ho
    have y2_:=As.mk hb_
    have y3_:=As.mk (KeepT.grown HK.out HO.out hg_)
    clear BK HO HB HK ho hb_ hg_ hat_ hHeld
    have BK:=y0_
    have HO:=y1_
    have HB:=y2_
    have HK:=y3_
    clear y0_ y1_ y2_ y3_
    refine hK.out _ _ ((bC BK.out 0).trans rfl) (fun hHeld=>?_)
    clear hK K
    refine norm_ (a':=?_) ?_ ?_
    rotate_left
    ·show Act.put _ (some 31) _ = _
     simp only [Act.put,List.setIfInBounds_toArray,List.set_cons_zero,List.set_cons_succ,i64_w,i32_w]
     rfl
    have hcz_0 : w9.cell? ⟨g,0,none⟩ = some vv:=(bC BK.out 0).trans rfl
    have hfz_0:=bF BK.out 0
    refine pure_ (i:=12) (N:=some 32) (v:=?_) (a':=?_) #[true,true,true,true,true,true,true,true,true,true,true,true,true,false,false] rfl rfl (any_of HT_.out (by kernel_rfl)) (fun _ _ _ h=>h) (Or.inl ⟨by rfl,?_⟩) ?_ ?_
    rotate_left
    ·intro w'
     go_simp
     with_reducible rfl
    rotate_left
    ·simp only [Act.put,List.setIfInBounds_toArray,List.set_cons_zero,List.set_cons_succ,i64_w,i32_w]
     rfl
    refine pure_ (i:=13) (N:=some 33) (v:=?_) (a':=?_) #[true,true,true,true,true,true,true,true,true,true,true,true,true,true,false] rfl rfl (any_of HT_.out (by kernel_rfl)) (fun _ _ _ h=>h) (Or.inl ⟨by rfl,?_⟩) ?_ ?_
    rotate_left
    ·intro w'
     go_simp
     with_reducible rfl
    rotate_left
    ·simp only [Act.put,List.setIfInBounds_toArray,List.set_cons_zero,List.set_cons_succ,i64_w,i32_w]
     rfl
    refine last_ (i:=14) (N:=none) #[true,true,true,true,true,true,true,true,true,true,true,true,true,true,true] rfl rfl (one_of HT_.out (by kernel_rfl)) (by decide) (fun K hK=>?_)
    refine skip_ (w1:=?_) (by rfl) rfl ?_ ?_
    rotate_left
    ·go_simp
     rfl
    refine hK.out _ _ ?_
    clear hK K
    refine done_ (done_of HT_.out (by kernel_rfl)) ?_
    go_wp2_with (fail)
    go_roundg (gk - 1)
    case measure=>have:=HKQ.out;omega
    case rel=>exact ⟨3 - 1,bx ++ [IntKind.u8.wrap (n / 16777216)],(by first | rfl | simp),by omega,by omega,⟨by have:=HKQ.out;omega⟩,⟨by rw [HC1.out,List.append_assoc];rfl⟩,⟨WrR.row BK.out HGE.out HO.out⟩,⟨(by repeat (first | (with_reducible first | exact HB.out | apply bA | apply bN | apply bD | refine bT ?_ HGE.out) | exact HB.out))⟩,⟨(by repeat (first | (with_reducible first | exact HK.out | apply KeepT.set_ | apply KeepT.drewN | apply KeepT.drew | apply KeepT.alloc) | exact HK.out))⟩⟩
   ·have hx : x = 2:=by omega
    subst hx
    have HC1:=As.mk (show bx = bs ++ (be4 n).take 1 from HBX.out)
    go_upto_region 3 with (fail)
    refine start_ (n:=15) (S:=fun w'=>w'.cell? ⟨g,0,none⟩ = some vv) (ds:=[14]) #[false,false,false,false,false,false,false,false,false,false,false,false,false,false,false] (by kernel_rfl) rfl rfl ((bC BK.out 0).trans rfl) (fun hHeld=>?_);refine with_tabW wput.tab3 wput.bits3 (fun HT_ HW_=>?_)
    have y0_:=As.mk (kD BK.out)
    have y1_:=As.mk (Kd.R_below HO.out (bD (Below.refl _ _)))
    have y2_:=As.mk (bD HB.out)
    have y3_:=As.mk (KeepT.drew HK.out)
    clear BK HO HB HK HI hcz_0 hcz_1 hfz_0 hfz_1
    generalize wr.drew = wy at y0_ y1_ y2_ y3_ hHeld ⊢
    have BK:=y0_
    have HO:=y1_
    have HB:=y2_
    have HK:=y3_
    clear y0_ y1_ y2_ y3_
    refine pure_ (i:=0) (N:=some 20) (v:=?_) (a':=?_) #[true,false,false,false,false,false,false,false,false,false,false,false,false,false,false] rfl rfl (any_of HT_.out (by kernel_rfl)) (fun _ _ _ h=>h) (Or.inl ⟨by rfl,?_⟩) ?_ ?_
    rotate_left
    ·intro w'
     go_simp
     with_reducible rfl
    rotate_left
    ·simp only [Act.put,List.setIfInBounds_toArray,List.set_cons_zero,List.set_cons_succ,i64_w,i32_w]
     rfl
    refine pure_ (i:=1) (N:=some 21) (v:=?_) (a':=?_) #[true,true,false,false,false,false,false,false,false,false,false,false,false,false,false] rfl rfl (any_of HT_.out (by kernel_rfl)) (fun _ _ _ h=>h) (Or.inl ⟨by rfl,?_⟩) ?_ ?_
    rotate_left
    ·intro w'
     go_simp
     with_reducible rfl
    rotate_left
    ·simp only [Act.put,List.setIfInBounds_toArray,List.set_cons_zero,List.set_cons_succ,i64_w,i32_w]
     rfl
    refine pure_ (i:=2) (N:=some 22) (v:=?_) (a':=?_) #[true,true,true,false,false,false,false,false,false,false,false,false,false,false,false] rfl rfl (any_of HT_.out (by kernel_rfl)) (fun _ _ _ h=>h) (Or.inl ⟨by rfl,?_⟩) ?_ ?_
    rotate_left
    ·intro w'
     go_simp
     with_reducible rfl
    rotate_left
    ·simp only [Act.put,List.setIfInBounds_toArray,List.set_cons_zero,List.set_cons_succ,i64_w,i32_w]
     rfl
    refine pure_ (i:=3) (N:=some 23) (v:=?_) (a':=?_) #[true,true,true,true,false,false,false,false,false,false,false,false,false,false,false] rfl rfl (any_of HT_.out (by kernel_rfl)) (fun _ _ _ h=>h) (Or.inl ⟨by rfl,?_⟩) ?_ ?_
    rotate_left
    ·intro w'
     go_simp
     with_reducible rfl
    rotate_left
    ·simp only [Act.put,List.setIfInBounds_toArray,List.set_cons_zero,List.set_cons_succ,i64_w,i32_w]
     rfl
    refine take_ (i:=4) (N:=some 24) (v:=?_) (a':=?_) #[true,true,true,true,true,false,false,false,false,false,false,false,false,false,false] rfl rfl (take_ofW HT_.out HW_.out (by kernel_rfl)) (fun _ _ _ h=>h) (Or.inl ⟨by rfl,?_⟩) hHeld ?_ ?_
    rotate_left
    ·rintro w' s0
     go_simp
     with_reducible rfl
    rotate_left
    ·simp only [Act.put,List.setIfInBounds_toArray,List.set_cons_zero,List.set_cons_succ,i64_w,i32_w]
     rfl
    refine pure_ (i:=5) (N:=some 25) (v:=?_) (a':=?_) #[true,true,true,true,true,true,false,false,false,false,false,false,false,false,false] rfl rfl (any_of HT_.out (by kernel_rfl)) (fun _ _ _ h=>h) (Or.inl ⟨by rfl,?_⟩) ?_ ?_
    rotate_left
    ·intro w'
     go_simp
     with_reducible rfl
    rotate_left
    ·simp only [Act.put,List.setIfInBounds_toArray,List.set_cons_zero,List.set_cons_succ,i64_w,i32_w]
     rfl
    refine pure_ (i:=6) (N:=some 26) (v:=?_) (a':=?_) #[true,true,true,true,true,true,true,false,false,false,false,false,false,false,false] rfl rfl (any_of HT_.out (by kernel_rfl)) (fun _ _ _ h=>h) (Or.inl ⟨by rfl,?_⟩) ?_ ?_
    rotate_left
    ·intro w'
     go_simp
     with_reducible rfl
    rotate_left
    ·simp only [Act.put,List.setIfInBounds_toArray,List.set_cons_zero,List.set_cons_succ,i64_w,i32_w]
     rfl
    refine pure_ (i:=7) (N:=some 27) (v:=?_) (a':=?_) #[true,true,true,true,true,true,true,true,false,false,false,false,false,false,false] rfl rfl (any_of HT_.out (by kernel_rfl)) (fun _ _ _ h=>h) (Or.inl ⟨by rfl,?_⟩) ?_ ?_
    rotate_left
    ·intro w'
     go_simp
     with_reducible rfl
    rotate_left
    ·simp only [Act.put,List.setIfInBounds_toArray,List.set_cons_zero,List.set_cons_succ,i64_w,i32_w]
     rfl
    refine pure_ (i:=8) (N:=some 28) (v:=?_) (a':=?_) #[true,true,true,true,true,true,true,true,true,false,false,false,false,false,false] rfl rfl (any_of HT_.out (by kernel_rfl)) (fun _ _ _ h=>h) (Or.inl ⟨by rfl,?_⟩) ?_ ?_
    rotate_left
    ·intro w'
     go_simp
     with_reducible rfl
    rotate_left
    ·simp only [Act.put,List.setIfInBounds_toArray,List.set_cons_zero,List.set_cons_succ,i64_w,i32_w]
     rfl
    refine pure_ (i:=9) (N:=some 29) (v:=?_) (a':=?_) #[true,true,true,true,true,true,true,true,true,true,false,false,false,false,false] rfl rfl (any_of HT_.out (by kernel_rfl)) (fun _ _ _ h=>h) (Or.inl ⟨by rfl,?_⟩) ?_ ?_
    rotate_left
    ·intro w'
     go_simp
     with_reducible rfl
    rotate_left
    ·simp only [Act.put,List.setIfInBounds_toArray,List.set_cons_zero,List.set_cons_succ,i64_w,i32_w]
     rfl
    refine one_ (i:=10) (N:=some 30) #[true,true,true,true,true,true,true,true,true,true,true,false,false,false,false] rfl rfl (one_of HT_.out (by kernel_rfl)) (by decide) (fun K hK=>?_)
    refine value_ (w1:=?_) (v:=?_) (by rfl) rfl ?_ ?_
    rotate_left 2
    ·go_simp
     constructor
     ·rfl
     ·rfl
    refine hK.out _ _ ((bC (kA BK.out _) 0).trans rfl) (fun hHeld=>?_)
    clear hK K
    refine norm_ (a':=?_) ?_ ?_
    rotate_left
    ·show Act.put _ (some 30) _ = _
     simp only [Act.put,List.setIfInBounds_toArray,List.set_cons_zero,List.set_cons_succ,i64_w,i32_w]
     rfl
    refine one_ (i:=11) (N:=some 31) #[true,true,true,true,true,true,true,true,true,true,true,true,false,false,false] rfl rfl (one_of HT_.out (by kernel_rfl)) (by decide) (fun K hK=>?_)
    refine Kd.R_append_step (Kd.int .u8) (w0:=w0) w0.heap.size (by rfl) (.tmp 24) (.tmp 30) 54 5 (.int .u8 0) 1 rfl Tryz.underlying54 infoU8_ rfl (by decide) (by decide) vv bx (IntKind.u8.wrap (n / 65536)) [.int .u8 (IntKind.u8.wrap (n / 65536))] (fun _=>True) (fun _=>False) (by rfl) (by rfl) ?aP (fun _ hk=>hk.elim) (fun _ _=>trivial) HO.out HB.out HB.out.size (by have:=HLX.out;omega) ?_
    case aP=>exact rfl
    intro v9 w9 ho hb_ hg_ hat_
    obtain ⟨A9,n9,c9,rfl⟩ : ∃ A n c,v9 = Value.slice A n c:=by obtain ⟨A,c,h,_⟩:=Kd.R_reads ho;exact ⟨A,_,c,h⟩
    have y0_:=As.mk (blk_grown BK.out hg_ (row_ne HO.out BK.out (by decide)))
    have y1_:=As.mk ho
    have y2_:=As.mk hb_
    have y3_:=As.mk (KeepT.grown HK.out HO.out hg_)
    clear BK HO HB HK ho hb_ hg_ hat_ hHeld
    have BK:=y0_
    have HO:=y1_
    have HB:=y2_
    have HK:=y3_
    clear y0_ y1_ y2_ y3_
    refine hK.out _ _ ((bC BK.out 0).trans rfl) (fun hHeld=>?_)
    clear hK K
    refine norm_ (a':=?_) ?_ ?_
    rotate_left
    ·show Act.put _ (some 31) _ = _
     simp only [Act.put,List.setIfInBounds_toArray,List.set_cons_zero,List.set_cons_succ,i64_w,i32_w]
     rfl
    have hcz_0 : w9.cell? ⟨g,0,none⟩ = some vv:=(bC BK.out 0).trans rfl
    have hfz_0:=bF BK.out 0
    refine pure_ (i:=12) (N:=some 32) (v:=?_) (a':=?_) #[true,true,true,true,true,true,true,true,true,true,true,true,true,false,false] rfl rfl (any_of HT_.out (by kernel_rfl)) (fun _ _ _ h=>h) (Or.inl ⟨by rfl,?_⟩) ?_ ?_
    rotate_left
    ·intro w'
     go_simp
     with_reducible rfl
    rotate_left
    ·simp only [Act.put,List.setIfInBounds_toArray,List.set_cons_zero,List.set_cons_succ,i64_w,i32_w]
     rfl
    refine pure_ (i:=13) (N:=some 33) (v:=?_) (a':=?_) #[true,true,true,true,true,true,true,true,true,true,true,true,true,true,false] rfl rfl (any_of HT_.out (by kernel_rfl)) (fun _ _ _ h=>h) (Or.inl ⟨by rfl,?_⟩) ?_ ?_
    rotate_left
    ·intro w'
     go_simp
     with_reducible rfl
    rotate_left
    ·simp only [Act.put,List.setIfInBounds_toArray,List.set_cons_zero,List.set_cons_succ,i64_w,i32_w]
     rfl
    refine last_ (i:=14) (N:=none) #[true,true,true,true,true,true,true,true,true,true,true,true,true,true,true] rfl rfl (one_of HT_.out (by kernel_rfl)) (by decide) (fun K hK=>?_)
    refine skip_ (w1:=?_) (by rfl) rfl ?_ ?_
    rotate_left
    ·go_simp
     rfl
    refine hK.out _ _ ?_
    clear hK K
    refine done_ (done_of HT_.out (by kernel_rfl)) ?_
    go_wp2_with (fail)
    go_roundg (gk - 1)
    case measure=>have:=HKQ.out;omega
    case rel=>exact ⟨2 - 1,bx ++ [IntKind.u8.wrap (n / 65536)],(by first | rfl | simp),by omega,by omega,⟨by have:=HKQ.out;omega⟩,⟨by rw [HC1.out,List.append_assoc];rfl⟩,⟨WrR.row BK.out HGE.out HO.out⟩,⟨(by repeat (first | (with_reducible first | exact HB.out | apply bA | apply bN | apply bD | refine bT ?_ HGE.out) | exact HB.out))⟩,⟨(by repeat (first | (with_reducible first | exact HK.out | apply KeepT.set_ | apply KeepT.drewN | apply KeepT.drew | apply KeepT.alloc) | exact HK.out))⟩⟩
   ·have hx : x = 1:=by omega
    subst hx
    have HC1:=As.mk (show bx = bs ++ (be4 n).take 2 from HBX.out)
    go_upto_region 3 with (fail)
    refine start_ (n:=15) (S:=fun w'=>w'.cell? ⟨g,0,none⟩ = some vv) (ds:=[14]) #[false,false,false,false,false,false,false,false,false,false,false,false,false,false,false] (by kernel_rfl) rfl rfl ((bC BK.out 0).trans rfl) (fun hHeld=>?_);refine with_tabW wput.tab3 wput.bits3 (fun HT_ HW_=>?_)
    have y0_:=As.mk (kD BK.out)
    have y1_:=As.mk (Kd.R_below HO.out (bD (Below.refl _ _)))
    have y2_:=As.mk (bD HB.out)
    have y3_:=As.mk (KeepT.drew HK.out)
    clear BK HO HB HK HI hcz_0 hcz_1 hfz_0 hfz_1
    generalize wr.drew = wy at y0_ y1_ y2_ y3_ hHeld ⊢
    have BK:=y0_
    have HO:=y1_
    have HB:=y2_
    have HK:=y3_
    clear y0_ y1_ y2_ y3_
    refine pure_ (i:=0) (N:=some 20) (v:=?_) (a':=?_) #[true,false,false,false,false,false,false,false,false,false,false,false,false,false,false] rfl rfl (any_of HT_.out (by kernel_rfl)) (fun _ _ _ h=>h) (Or.inl ⟨by rfl,?_⟩) ?_ ?_
    rotate_left
    ·intro w'
     go_simp
     with_reducible rfl
    rotate_left
    ·simp only [Act.put,List.setIfInBounds_toArray,List.set_cons_zero,List.set_cons_succ,i64_w,i32_w]
     rfl
    refine pure_ (i:=1) (N:=some 21) (v:=?_) (a':=?_) #[true,true,false,false,false,false,false,false,false,false,false,false,false,false,false] rfl rfl (any_of HT_.out (by kernel_rfl)) (fun _ _ _ h=>h) (Or.inl ⟨by rfl,?_⟩) ?_ ?_
    rotate_left
    ·intro w'
     go_simp
     with_reducible rfl
    rotate_left
    ·simp only [Act.put,List.setIfInBounds_toArray,List.set_cons_zero,List.set_cons_succ,i64_w,i32_w]
     rfl
    refine pure_ (i:=2) (N:=some 22) (v:=?_) (a':=?_) #[true,true,true,false,false,false,false,false,false,false,false,false,false,false,false] rfl rfl (any_of HT_.out (by kernel_rfl)) (fun _ _ _ h=>h) (Or.inl ⟨by rfl,?_⟩) ?_ ?_
    rotate_left
    ·intro w'
     go_simp
     with_reducible rfl
    rotate_left
    ·simp only [Act.put,List.setIfInBounds_toArray,List.set_cons_zero,List.set_cons_succ,i64_w,i32_w]
     rfl
    refine pure_ (i:=3) (N:=some 23) (v:=?_) (a':=?_) #[true,true,true,true,false,false,false,false,false,false,false,false,false,false,false] rfl rfl (any_of HT_.out (by kernel_rfl)) (fun _ _ _ h=>h) (Or.inl ⟨by rfl,?_⟩) ?_ ?_
    rotate_left
    ·intro w'
     go_simp
     with_reducible rfl
    rotate_left
    ·simp only [Act.put,List.setIfInBounds_toArray,List.set_cons_zero,List.set_cons_succ,i64_w,i32_w]
     rfl
    refine take_ (i:=4) (N:=some 24) (v:=?_) (a':=?_) #[true,true,true,true,true,false,false,false,false,false,false,false,false,false,false] rfl rfl (take_ofW HT_.out HW_.out (by kernel_rfl)) (fun _ _ _ h=>h) (Or.inl ⟨by rfl,?_⟩) hHeld ?_ ?_
    rotate_left
    ·rintro w' s0
     go_simp
     with_reducible rfl
    rotate_left
    ·simp only [Act.put,List.setIfInBounds_toArray,List.set_cons_zero,List.set_cons_succ,i64_w,i32_w]
     rfl
    refine pure_ (i:=5) (N:=some 25) (v:=?_) (a':=?_) #[true,true,true,true,true,true,false,false,false,false,false,false,false,false,false] rfl rfl (any_of HT_.out (by kernel_rfl)) (fun _ _ _ h=>h) (Or.inl ⟨by rfl,?_⟩) ?_ ?_
    rotate_left
    ·intro w'
     go_simp
     with_reducible rfl
    rotate_left
    ·simp only [Act.put,List.setIfInBounds_toArray,List.set_cons_zero,List.set_cons_succ,i64_w,i32_w]
     rfl
    refine pure_ (i:=6) (N:=some 26) (v:=?_) (a':=?_) #[true,true,true,true,true,true,true,false,false,false,false,false,false,false,false] rfl rfl (any_of HT_.out (by kernel_rfl)) (fun _ _ _ h=>h) (Or.inl ⟨by rfl,?_⟩) ?_ ?_
    rotate_left
    ·intro w'
     go_simp
     with_reducible rfl
    rotate_left
    ·simp only [Act.put,List.setIfInBounds_toArray,List.set_cons_zero,List.set_cons_succ,i64_w,i32_w]
     rfl
    refine pure_ (i:=7) (N:=some 27) (v:=?_) (a':=?_) #[true,true,true,true,true,true,true,true,false,false,false,false,false,false,false] rfl rfl (any_of HT_.out (by kernel_rfl)) (fun _ _ _ h=>h) (Or.inl ⟨by rfl,?_⟩) ?_ ?_
    rotate_left
    ·intro w'
     go_simp
     with_reducible rfl
    rotate_left
    ·simp only [Act.put,List.setIfInBounds_toArray,List.set_cons_zero,List.set_cons_succ,i64_w,i32_w]
     rfl
    refine pure_ (i:=8) (N:=some 28) (v:=?_) (a':=?_) #[true,true,true,true,true,true,true,true,true,false,false,false,false,false,false] rfl rfl (any_of HT_.out (by kernel_rfl)) (fun _ _ _ h=>h) (Or.inl ⟨by rfl,?_⟩) ?_ ?_
    rotate_left
    ·intro w'
     go_simp
     with_reducible rfl
    rotate_left
    ·simp only [Act.put,List.setIfInBounds_toArray,List.set_cons_zero,List.set_cons_succ,i64_w,i32_w]
     rfl
    refine pure_ (i:=9) (N:=some 29) (v:=?_) (a':=?_) #[true,true,true,true,true,true,true,true,true,true,false,false,false,false,false] rfl rfl (any_of HT_.out (by kernel_rfl)) (fun _ _ _ h=>h) (Or.inl ⟨by rfl,?_⟩) ?_ ?_
    rotate_left
    ·intro w'
     go_simp
     with_reducible rfl
    rotate_left
    ·simp only [Act.put,List.setIfInBounds_toArray,List.set_cons_zero,List.set_cons_succ,i64_w,i32_w]
     rfl
    refine one_ (i:=10) (N:=some 30) #[true,true,true,true,true,true,true,true,true,true,true,false,false,false,false] rfl rfl (one_of HT_.out (by kernel_rfl)) (by decide) (fun K hK=>?_)
    refine value_ (w1:=?_) (v:=?_) (by rfl) rfl ?_ ?_
    rotate_left 2
    ·go_simp
     constructor
     ·rfl
     ·rfl
    refine hK.out _ _ ((bC (kA BK.out _) 0).trans rfl) (fun hHeld=>?_)
    clear hK K
    refine norm_ (a':=?_) ?_ ?_
    rotate_left
    ·show Act.put _ (some 30) _ = _
     simp only [Act.put,List.setIfInBounds_toArray,List.set_cons_zero,List.set_cons_succ,i64_w,i32_w]
     rfl
    refine one_ (i:=11) (N:=some 31) #[true,true,true,true,true,true,true,true,true,true,true,true,false,false,false] rfl rfl (one_of HT_.out (by kernel_rfl)) (by decide) (fun K hK=>?_)
    refine Kd.R_append_step (Kd.int .u8) (w0:=w0) w0.heap.size (by rfl) (.tmp 24) (.tmp 30) 54 5 (.int .u8 0) 1 rfl Tryz.underlying54 infoU8_ rfl (by decide) (by decide) vv bx (IntKind.u8.wrap (n / 256)) [.int .u8 (IntKind.u8.wrap (n / 256))] (fun _=>True) (fun _=>False) (by rfl) (by rfl) ?aP (fun _ hk=>hk.elim) (fun _ _=>trivial) HO.out HB.out HB.out.size (by have:=HLX.out;omega) ?_
    case aP=>exact rfl
    intro v9 w9 ho hb_ hg_ hat_
    obtain ⟨A9,n9,c9,rfl⟩ : ∃ A n c,v9 = Value.slice A n c:=by obtain ⟨A,c,h,_⟩:=Kd.R_reads ho;exact ⟨A,_,c,h⟩
    have y0_:=As.mk (blk_grown BK.out hg_ (row_ne HO.out BK.out (by decide)))
    have y1_:=As.mk ho
    have y2_:=As.mk hb_
    have y3_:=As.mk (KeepT.grown HK.out HO.out hg_)
    clear BK HO HB HK ho hb_ hg_ hat_ hHeld
    have BK:=y0_
    have HO:=y1_
    have HB:=y2_
    have HK:=y3_
    clear y0_ y1_ y2_ y3_
    refine hK.out _ _ ((bC BK.out 0).trans rfl) (fun hHeld=>?_)
    clear hK K
    refine norm_ (a':=?_) ?_ ?_
    rotate_left
    ·show Act.put _ (some 31) _ = _
     simp only [Act.put,List.setIfInBounds_toArray,List.set_cons_zero,List.set_cons_succ,i64_w,i32_w]
     rfl
    have hcz_0 : w9.cell? ⟨g,0,none⟩ = some vv:=(bC BK.out 0).trans rfl
    have hfz_0:=bF BK.out 0
    refine pure_ (i:=12) (N:=some 32) (v:=?_) (a':=?_) #[true,true,true,true,true,true,true,true,true,true,true,true,true,false,false] rfl rfl (any_of HT_.out (by kernel_rfl)) (fun _ _ _ h=>h) (Or.inl ⟨by rfl,?_⟩) ?_ ?_
    rotate_left
    ·intro w'
     go_simp
     with_reducible rfl
    rotate_left
    ·simp only [Act.put,List.setIfInBounds_toArray,List.set_cons_zero,List.set_cons_succ,i64_w,i32_w]
     rfl
    refine pure_ (i:=13) (N:=some 33) (v:=?_) (a':=?_) #[true,true,true,true,true,true,true,true,true,true,true,true,true,true,false] rfl rfl (any_of HT_.out (by kernel_rfl)) (fun _ _ _ h=>h) (Or.inl ⟨by rfl,?_⟩) ?_ ?_
    rotate_left
    ·intro w'
     go_simp
     with_reducible rfl
    rotate_left
    ·simp only [Act.put,List.setIfInBounds_toArray,List.set_cons_zero,List.set_cons_succ,i64_w,i32_w]
     rfl
    refine last_ (i:=14) (N:=none) #[true,true,true,true,true,true,true,true,true,true,true,true,true,true,true] rfl rfl (one_of HT_.out (by kernel_rfl)) (by decide) (fun K hK=>?_)
    refine skip_ (w1:=?_) (by rfl) rfl ?_ ?_
    rotate_left
    ·go_simp
     rfl
    refine hK.out _ _ ?_
    clear hK K
    refine done_ (done_of HT_.out (by kernel_rfl)) ?_
    go_wp2_with (fail)
    go_roundg (gk - 1)
    case measure=>have:=HKQ.out;omega
    case rel=>exact ⟨1 - 1,bx ++ [IntKind.u8.wrap (n / 256)],(by first | rfl | simp),by omega,by omega,⟨by have:=HKQ.out;omega⟩,⟨by rw [HC1.out,List.append_assoc];rfl⟩,⟨WrR.row BK.out HGE.out HO.out⟩,⟨(by repeat (first | (with_reducible first | exact HB.out | apply bA | apply bN | apply bD | refine bT ?_ HGE.out) | exact HB.out))⟩,⟨(by repeat (first | (with_reducible first | exact HK.out | apply KeepT.set_ | apply KeepT.drewN | apply KeepT.drew | apply KeepT.alloc) | exact HK.out))⟩⟩
   ·have hx : x = 0:=by omega
    subst hx
    have HC1:=As.mk (show bx = bs ++ (be4 n).take 3 from HBX.out)
    go_upto_region 3 with (fail)
    refine start_ (n:=15) (S:=fun w'=>w'.cell? ⟨g,0,none⟩ = some vv) (ds:=[14]) #[false,false,false,false,false,false,false,false,false,false,false,false,false,false,false] (by kernel_rfl) rfl rfl ((bC BK.out 0).trans rfl) (fun hHeld=>?_);refine with_tabW wput.tab3 wput.bits3 (fun HT_ HW_=>?_)
    have y0_:=As.mk (kD BK.out)
    have y1_:=As.mk (Kd.R_below HO.out (bD (Below.refl _ _)))
    have y2_:=As.mk (bD HB.out)
    have y3_:=As.mk (KeepT.drew HK.out)
    clear BK HO HB HK HI hcz_0 hcz_1 hfz_0 hfz_1
    generalize wr.drew = wy at y0_ y1_ y2_ y3_ hHeld ⊢
    have BK:=y0_
    have HO:=y1_
    have HB:=y2_
    have HK:=y3_
    clear y0_ y1_ y2_ y3_
    refine pure_ (i:=0) (N:=some 20) (v:=?_) (a':=?_) #[true,false,false,false,false,false,false,false,false,false,false,false,false,false,false] rfl rfl (any_of HT_.out (by kernel_rfl)) (fun _ _ _ h=>h) (Or.inl ⟨by rfl,?_⟩) ?_ ?_
    rotate_left
    ·intro w'
     go_simp
     with_reducible rfl
    rotate_left
    ·simp only [Act.put,List.setIfInBounds_toArray,List.set_cons_zero,List.set_cons_succ,i64_w,i32_w]
     rfl
    refine pure_ (i:=1) (N:=some 21) (v:=?_) (a':=?_) #[true,true,false,false,false,false,false,false,false,false,false,false,false,false,false] rfl rfl (any_of HT_.out (by kernel_rfl)) (fun _ _ _ h=>h) (Or.inl ⟨by rfl,?_⟩) ?_ ?_
    rotate_left
    ·intro w'
     go_simp
     with_reducible rfl
    rotate_left
    ·simp only [Act.put,List.setIfInBounds_toArray,List.set_cons_zero,List.set_cons_succ,i64_w,i32_w]
     rfl
    refine pure_ (i:=2) (N:=some 22) (v:=?_) (a':=?_) #[true,true,true,false,false,false,false,false,false,false,false,false,false,false,false] rfl rfl (any_of HT_.out (by kernel_rfl)) (fun _ _ _ h=>h) (Or.inl ⟨by rfl,?_⟩) ?_ ?_
    rotate_left
    ·intro w'
     go_simp
     with_reducible rfl
    rotate_left
    ·simp only [Act.put,List.setIfInBounds_toArray,List.set_cons_zero,List.set_cons_succ,i64_w,i32_w]
     rfl
    refine pure_ (i:=3) (N:=some 23) (v:=?_) (a':=?_) #[true,true,true,true,false,false,false,false,false,false,false,false,false,false,false] rfl rfl (any_of HT_.out (by kernel_rfl)) (fun _ _ _ h=>h) (Or.inl ⟨by rfl,?_⟩) ?_ ?_
    rotate_left
    ·intro w'
     go_simp
     with_reducible rfl
    rotate_left
    ·simp only [Act.put,List.setIfInBounds_toArray,List.set_cons_zero,List.set_cons_succ,i64_w,i32_w]
     rfl
    refine take_ (i:=4) (N:=some 24) (v:=?_) (a':=?_) #[true,true,true,true,true,false,false,false,false,false,false,false,false,false,false] rfl rfl (take_ofW HT_.out HW_.out (by kernel_rfl)) (fun _ _ _ h=>h) (Or.inl ⟨by rfl,?_⟩) hHeld ?_ ?_
    rotate_left
    ·rintro w' s0
     go_simp
     with_reducible rfl
    rotate_left
    ·simp only [Act.put,List.setIfInBounds_toArray,List.set_cons_zero,List.set_cons_succ,i64_w,i32_w]
     rfl
    refine pure_ (i:=5) (N:=some 25) (v:=?_) (a':=?_) #[true,true,true,true,true,true,false,false,false,false,false,false,false,false,false] rfl rfl (any_of HT_.out (by kernel_rfl)) (fun _ _ _ h=>h) (Or.inl ⟨by rfl,?_⟩) ?_ ?_
    rotate_left
    ·intro w'
     go_simp
     with_reducible rfl
    rotate_left
    ·simp only [Act.put,List.setIfInBounds_toArray,List.set_cons_zero,List.set_cons_succ,i64_w,i32_w]
     rfl
    refine pure_ (i:=6) (N:=some 26) (v:=?_) (a':=?_) #[true,true,true,true,true,true,true,false,false,false,false,false,false,false,false] rfl rfl (any_of HT_.out (by kernel_rfl)) (fun _ _ _ h=>h) (Or.inl ⟨by rfl,?_⟩) ?_ ?_
    rotate_left
    ·intro w'
     go_simp
     with_reducible rfl
    rotate_left
    ·simp only [Act.put,List.setIfInBounds_toArray,List.set_cons_zero,List.set_cons_succ,i64_w,i32_w]
     rfl
    refine pure_ (i:=7) (N:=some 27) (v:=?_) (a':=?_) #[true,true,true,true,true,true,true,true,false,false,false,false,false,false,false] rfl rfl (any_of HT_.out (by kernel_rfl)) (fun _ _ _ h=>h) (Or.inl ⟨by rfl,?_⟩) ?_ ?_
    rotate_left
    ·intro w'
     go_simp
     with_reducible rfl
    rotate_left
    ·simp only [Act.put,List.setIfInBounds_toArray,List.set_cons_zero,List.set_cons_succ,i64_w,i32_w]
     rfl
    refine pure_ (i:=8) (N:=some 28) (v:=?_) (a':=?_) #[true,true,true,true,true,true,true,true,true,false,false,false,false,false,false] rfl rfl (any_of HT_.out (by kernel_rfl)) (fun _ _ _ h=>h) (Or.inl ⟨by rfl,?_⟩) ?_ ?_
    rotate_left
    ·intro w'
     go_simp
     with_reducible rfl
    rotate_left
    ·simp only [Act.put,List.setIfInBounds_toArray,List.set_cons_zero,List.set_cons_succ,i64_w,i32_w]
     rfl
    refine pure_ (i:=9) (N:=some 29) (v:=?_) (a':=?_) #[true,true,true,true,true,true,true,true,true,true,false,false,false,false,false] rfl rfl (any_of HT_.out (by kernel_rfl)) (fun _ _ _ h=>h) (Or.inl ⟨by rfl,?_⟩) ?_ ?_
    rotate_left
    ·intro w'
     go_simp
     with_reducible rfl
    rotate_left
    ·simp only [Act.put,List.setIfInBounds_toArray,List.set_cons_zero,List.set_cons_succ,i64_w,i32_w]
     rfl
    refine one_ (i:=10) (N:=some 30) #[true,true,true,true,true,true,true,true,true,true,true,false,false,false,false] rfl rfl (one_of HT_.out (by kernel_rfl)) (by decide) (fun K hK=>?_)
    refine value_ (w1:=?_) (v:=?_) (by rfl) rfl ?_ ?_
    rotate_left 2
    ·go_simp
     constructor
     ·rfl
     ·rfl
    refine hK.out _ _ ((bC (kA BK.out _) 0).trans rfl) (fun hHeld=>?_)
    clear hK K
    refine norm_ (a':=?_) ?_ ?_
    rotate_left
    ·show Act.put _ (some 30) _ = _
     simp only [Act.put,List.setIfInBounds_toArray,List.set_cons_zero,List.set_cons_succ,i64_w,i32_w]
     rfl
    refine one_ (i:=11) (N:=some 31) #[true,true,true,true,true,true,true,true,true,true,true,true,false,false,false] rfl rfl (one_of HT_.out (by kernel_rfl)) (by decide) (fun K hK=>?_)
    refine Kd.R_append_step (Kd.int .u8) (w0:=w0) w0.heap.size (by rfl) (.tmp 24) (.tmp 30) 54 5 (.int .u8 0) 1 rfl Tryz.underlying54 infoU8_ rfl (by decide) (by decide) vv bx (IntKind.u8.wrap n) [.int .u8 (IntKind.u8.wrap n)] (fun _=>True) (fun _=>False) (by rfl) (by rfl) ?aP (fun _ hk=>hk.elim) (fun _ _=>trivial) HO.out HB.out HB.out.size (by have:=HLX.out;omega) ?_
    case aP=>exact rfl
    intro v9 w9 ho hb_ hg_ hat_
    obtain ⟨A9,n9,c9,rfl⟩ : ∃ A n c,v9 = Value.slice A n c:=by obtain ⟨A,c,h,_⟩:=Kd.R_reads ho;exact ⟨A,_,c,h⟩
    have y0_:=As.mk (blk_grown BK.out hg_ (row_ne HO.out BK.out (by decide)))
    have y1_:=As.mk ho
    have y2_:=As.mk hb_
    have y3_:=As.mk (KeepT.grown HK.out HO.out hg_)
    clear BK HO HB HK ho hb_ hg_ hat_ hHeld
    have BK:=y0_
    have HO:=y1_
    have HB:=y2_
    have HK:=y3_
    clear y0_ y1_ y2_ y3_
    refine hK.out _ _ ((bC BK.out 0).trans rfl) (fun hHeld=>?_)
    clear hK K
    refine norm_ (a':=?_) ?_ ?_
    rotate_left
    ·show Act.put _ (some 31) _ = _
     simp only [Act.put,List.setIfInBounds_toArray,List.set_cons_zero,List.set_cons_succ,i64_w,i32_w]
     rfl
    have hcz_0 : w9.cell? ⟨g,0,none⟩ = some vv:=(bC BK.out 0).trans rfl
    have hfz_0:=bF BK.out 0
    refine pure_ (i:=12) (N:=some 32) (v:=?_) (a':=?_) #[true,true,true,true,true,true,true,true,true,true,true,true,true,false,false] rfl rfl (any_of HT_.out (by kernel_rfl)) (fun _ _ _ h=>h) (Or.inl ⟨by rfl,?_⟩) ?_ ?_
    rotate_left
    ·intro w'
     go_simp
     with_reducible rfl
    rotate_left
    ·simp only [Act.put,List.setIfInBounds_toArray,List.set_cons_zero,List.set_cons_succ,i64_w,i32_w]
     rfl
    refine pure_ (i:=13) (N:=some 33) (v:=?_) (a':=?_) #[true,true,true,true,true,true,true,true,true,true,true,true,true,true,false] rfl rfl (any_of HT_.out (by kernel_rfl)) (fun _ _ _ h=>h) (Or.inl ⟨by rfl,?_⟩) ?_ ?_
    rotate_left
    ·intro w'
     go_simp
     with_reducible rfl
    rotate_left
    ·simp only [Act.put,List.setIfInBounds_toArray,List.set_cons_zero,List.set_cons_succ,i64_w,i32_w]
     rfl
    refine last_ (i:=14) (N:=none) #[true,true,true,true,true,true,true,true,true,true,true,true,true,true,true] rfl rfl (one_of HT_.out (by kernel_rfl)) (by decide) (fun K hK=>?_)
    refine skip_ (w1:=?_) (by rfl) rfl ?_ ?_
    rotate_left
    ·go_simp
     rfl
    refine hK.out _ _ ?_
    clear hK K
    refine done_ (done_of HT_.out (by kernel_rfl)) ?_
    go_wp2_with (fail)
    go_roundg (gk - 1)
    case measure=>have:=HKQ.out;omega
    case rel=>exact ⟨0 - 1,bx ++ [IntKind.u8.wrap n],(by first | rfl | simp),by omega,by omega,⟨by have:=HKQ.out;omega⟩,⟨by rw [HC1.out,List.append_assoc];rfl⟩,⟨WrR.row BK.out HGE.out HO.out⟩,⟨(by repeat (first | (with_reducible first | exact HB.out | apply bA | apply bN | apply bD | refine bT ?_ HGE.out) | exact HB.out))⟩,⟨(by repeat (first | (with_reducible first | exact HK.out | apply KeepT.set_ | apply KeepT.drewN | apply KeepT.drew | apply KeepT.alloc) | exact HK.out))⟩⟩
  ·have hx : x = -1:=by omega
   subst hx
   go_wp2_with (fail)
   first | go_end0 | ((try simp only [Exit.inBlock,Exit.then]);refine bodyPost_ret (results_none rfl _ _ _) rfl ?_)
   rw [HBX.out] at HI
   exact ⟨rfl,(by repeat (first | (with_reducible first | exact HI.out | apply WrR.drewN | apply WrR.drew | apply WrR.err) | exact HI.out)),(by repeat (first | (with_reducible first | exact HB.out | apply bA | apply bN | apply bD | refine bT ?_ HI.out.ge) | exact HB.out)),(by repeat (first | (with_reducible first | exact HK.out | apply KeepT.set_ | apply KeepT.drewN | apply KeepT.drew | apply KeepT.alloc) | exact HK.out))⟩
theorem R_append_str {P : Program} {ops : Array Oper} {rest : List Oper} {o : Oper} {a : Act} {Q : Exit → Act → World → Prop} {w0 W : World} (base : Nat) (hgd : o.guard = none) (s x : Operand) (t u e : TypeId)
  (ho : o.op = .call { callee:=.builtin .append,args:=#[s,x],argTypes:=#[t,u] })
  (ht : P.underlying t = some (.slice e)) (hu : P.underlying u = some .string) (hinfo : (P.info? e).map (fun i=>(i.zero,i.size,i.bytes)) = some (some (.int .u8 0),1,1))
  (v : Value) (xs : List Int) (y : ByteArray) (hs : a.eval s = v) (hx : a.eval x = .string y)
  (HO : Kd.R (Kd.int .u8) e W base (fun _=>True) v xs) (HB : Below base w0 W) (hbase : base ≤ W.heap.size) (hl : xs.length + y.size ≤ 140737488355328)
  (h : ∀ v1 w1,Kd.R (Kd.int .u8) e w1 base (fun _=>True) v1 (xs ++ bytesN y) → Below base w0 w1 → W.grownBy w1 v.ownBlock → wpList P ops Q rest (a.put o.dst v1) w1) :
  wpList P ops Q (o :: rest) a W:=by
 refine print_append_str base hgd s x t u e ho ht hu hinfo v xs y hs hx (Kd.own_of_R HO) HB hbase hl ?_
 intro v1 w1 ho1 hb1 hg1
 exact h v1 w1 (Kd.R_of_own ho1 (fun _ _=>trivial)) hb1 hg1
theorem bytesN_len (s : ByteArray) : (bytesN s).length = s.size:=by rw [bytesN,List.length_map];rfl
theorem textO_len (s : ByteArray) : (textO s).length = s.size + 4:=by
 rw [textO,List.length_append,bytesN_len]
 show 4 + s.size = s.size + 4
 omega
theorem listO_len : ∀ (l : List ByteArray),(∀ x ∈ l,x.size ≤ 100000) → (l.flatMap textO).length ≤ l.length * 100004
 | [],_=>Nat.zero_le _
 | x :: l,h=>by
  rw [List.flatMap_cons,List.length_append,textO_len,List.length_cons]
  have:=h x List.mem_cons_self
  have:=listO_len l (fun y hy=>h y (List.mem_cons_of_mem _ hy))
  omega
theorem num_good (g : Nat) (bs : List Int) (n : Int) (h0 : 0 ≤ n) (h1 : n ≤ 2147483647) (hl : bs.length ≤ 100000000000000) (w0 w : World) (hI : WrR w0 w g bs 0) (hB : Below w0.heap.size w0 w) :
  Calls Tryz.prog 77 #[.pointer (some ⟨g,0,none⟩),.int .i64 n] w fun r w'=>r = .returned (.tuple #[]) ∧ WrR w0 w' g (bs ++ be4 n) 0 ∧ Below w0.heap.size w0 w' ∧ KeepT g w w':=by
 have HI:=As.mk hI
 have HB:=As.mk hB
 have HK:=As.mk (KeepT.refl g w)
 clear hI hB
 have c1 : decide (n < 0) = false:=decide_eq_false (by omega)
 have c2 : decide ((2147483647 : Int) < n) = false:=decide_eq_false (by omega)
 have hu : IntKind.u64.wrap n = n:=u64_mod n (by omega)
 have HL:=As.mk hl
 clear hl
 go_enter Tryz.func77,Tryz.ntmps77
 go_wp2_with (first | (go_at_call 117;(with_reducible refine (put_good g bs n h0 (by omega) HL.out w0 _ ?sideI ?sideB).mono ?_);(case sideI=>exact (by repeat (first | (with_reducible first | exact HI.out | apply WrR.drewN | apply WrR.drew | apply WrR.err) | exact HI.out)));(case sideB=>exact (by repeat (first | (with_reducible first | exact HB.out | apply bA | apply bN | apply bD | refine bT ?_ HI.out.ge) | exact HB.out)));rintro er w1 ⟨rfl,hI1,hB1,hK1⟩;have n0_:=As.mk hI1;have n1_:=As.mk hB1;have n2_:=As.mk (KeepT.trans (by repeat (first | (with_reducible first | exact HK.out | apply KeepT.set_ | apply KeepT.drewN | apply KeepT.drew | apply KeepT.alloc) | exact HK.out)) hK1);clear HI HB HK hI1 hB1 hK1;have HI:=n0_;have HB:=n1_;have HK:=n2_;clear n0_ n1_ n2_))
 first | go_end0 | ((try simp only [Exit.inBlock,Exit.then]);refine bodyPost_ret (results_none rfl _ _ _) rfl ?_)
 exact ⟨rfl,(by repeat (first | (with_reducible first | exact HI.out | apply WrR.drewN | apply WrR.drew | apply WrR.err) | exact HI.out)),(by repeat (first | (with_reducible first | exact HB.out | apply bA | apply bN | apply bD | refine bT ?_ HI.out.ge) | exact HB.out)),(by repeat (first | (with_reducible first | exact HK.out | apply KeepT.set_ | apply KeepT.drewN | apply KeepT.drew | apply KeepT.alloc) | exact HK.out))⟩
theorem text_good (g : Nat) (bs : List Int) (s : ByteArray) (hs : s.size ≤ 100000000) (hl : bs.length ≤ 100000000000000) (w0 w : World) (hI : WrR w0 w g bs 0) (hB : Below w0.heap.size w0 w) :
  Calls Tryz.prog 118 #[.pointer (some ⟨g,0,none⟩),.string s] w fun r w'=>r = .returned (.tuple #[]) ∧ WrR w0 w' g (bs ++ textO s) 0 ∧ Below w0.heap.size w0 w' ∧ KeepT g w w':=by
 have HI:=As.mk hI
 have HB:=As.mk hB
 have HK:=As.mk (KeepT.refl g w)
 clear hI hB
 have HL:=As.mk hl
 have HLA:=As.mk (show (bs ++ be4 (s.size : Int)).length + s.size ≤ 140737488355328 by rw [List.length_append];show bs.length + 4 + s.size ≤ 140737488355328;omega)
 clear hl
 go_enter Tryz.func118,Tryz.ntmps118
 go_wp2_with (first | (go_at_call 77;(with_reducible refine (num_good g bs (s.size : Int) (by omega) (by omega) HL.out w0 _ HI.out HB.out).mono ?_);rintro er w1 ⟨rfl,hI1,hB1,hK1⟩;have n0_:=As.mk hI1;have n1_:=As.mk hB1;have n2_:=As.mk (KeepT.trans HK.out hK1);clear HI HB HK hI1 hB1 hK1;have HI:=n0_;have HB:=n1_;have HK:=n2_;clear n0_ n1_ n2_;obtain ⟨vv,hg_,hge_,hr_⟩:=HI.out;have BK:=As.mk hg_;have HGE:=As.mk hge_;have HO:=As.mk hr_;have hcz_0 : w1.cell? ⟨g,0,none⟩ = some vv:=(bC hg_ 0).trans rfl;have hcz_1 : w1.cell? ⟨g,1,none⟩ = some (.int .i64 0):=(bC hg_ 1).trans rfl;have hfz_0:=bF hg_ 0;have hfz_1:=bF hg_ 1;clear hg_ hge_ hr_) | ((with_reducible refine gB (b:=.append) (xs:=#[.tmp 17,.tmp 18]) rfl ?_);at_builtin;refine R_append_str (w0:=w0) w0.heap.size rfl (.tmp 17) (.tmp 18) 54 9 5 rfl Tryz.underlying54 Tryz.underlying9 infoU8_ vv (bs ++ be4 (s.size : Int)) s rfl rfl HO.out HB.out HB.out.size HLA.out ?_;intro v9 w9 ho hb_ hg_;obtain ⟨A9,n9,c9,rfl⟩ : ∃ A n c,v9 = Value.slice A n c:=(by obtain ⟨A,c,h,_⟩:=Kd.R_reads ho;exact ⟨A,_,c,h⟩);have n0_:=As.mk (blk_grown BK.out hg_ (row_ne HO.out BK.out (by decide)));have n1_:=As.mk ho;have n2_:=As.mk hb_;have n3_:=As.mk (KeepT.grown HK.out HO.out hg_);clear BK HO HB HK HI ho hb_ hg_ hcz_0 hcz_1 hfz_0 hfz_1;have BK:=n0_;have HO:=n1_;have HB:=n2_;have HK:=n3_;have hcz_0 : w9.cell? ⟨g,0,none⟩ = some vv:=(bC BK.out 0).trans rfl;have hfz_0:=bF BK.out 0;clear n0_ n1_ n2_ n3_))
 first | go_end0 | ((try simp only [Exit.inBlock,Exit.then]);refine bodyPost_ret (results_none rfl _ _ _) rfl ?_)
 exact ⟨rfl,by rw [textO,← List.append_assoc];exact WrR.row BK.out HGE.out HO.out,(by repeat (first | (with_reducible first | exact HB.out | apply bA | apply bN | apply bD | refine bT ?_ HGE.out) | exact HB.out)),(by repeat (first | (with_reducible first | exact HK.out | apply KeepT.set_ | apply KeepT.drewN | apply KeepT.drew | apply KeepT.alloc) | exact HK.out))⟩
theorem texts_good (g : Nat) (bs : List Int) (A0 : Option Addr) (c0 : Nat) (l : List ByteArray) (hll : l.length ≤ 1000000) (hs : ∀ x ∈ l,x.size ≤ 100000) (hl : bs.length ≤ 1000000000000) (w0 w : World) (hI : WrR w0 w g bs 0) (hB : Below w0.heap.size w0 w) (hr : ∀ W : World,Below w0.heap.size w0 W → KeepT g w W → Kd.C Kd.string W A0 l.length l) (hc : l.length ≤ c0) :
  Calls Tryz.prog 119 #[.pointer (some ⟨g,0,none⟩),.slice A0 l.length c0] w fun r w'=>r = .returned (.tuple #[]) ∧ WrR w0 w' g (bs ++ (be4 (l.length : Int) ++ l.flatMap textO)) 0 ∧ Below w0.heap.size w0 w' ∧ KeepT g w w':=by
 have HI:=As.mk hI
 have HB:=As.mk hB
 have HK:=As.mk (KeepT.refl g w)
 clear hI hB
 have HL:=As.mk (show bs.length ≤ 100000000000000 by omega)
 have HL1:=As.mk hl
 have HS:=As.mk hs
 have HR:=As.mk hr
 clear hl hs hr
 go_enter Tryz.func119,Tryz.ntmps119
 go_wp2_with (first | (go_at_call 77;(with_reducible refine (num_good g bs (l.length : Int) (by omega) (by omega) HL.out w0 _ HI.out HB.out).mono ?_);rintro er w1 ⟨rfl,hI1,hB1,hK1⟩;have n0_:=As.mk hI1;have n1_:=As.mk hB1;have n2_:=As.mk (KeepT.trans HK.out hK1);clear HI HB HK hI1 hB1 hK1;have HI:=n0_;have HB:=n1_;have HK:=n2_;clear n0_ n1_ n2_))
 go_loopg [12] l.length (fun kq v12 w'=>∃ (x : Int) (bx : List Int),v12 = .int .i64 x ∧ 0 ≤ x ∧ x ≤ (l.length : Int) ∧ As ((kq : Int) + x = (l.length : Int)) ∧ As (bx = (bs ++ be4 (l.length : Int)) ++ (l.take x.toNat).flatMap textO) ∧ As (WrR w0 w' g bx 0) ∧ As (Below w0.heap.size w0 w') ∧ As (KeepT g w w'))
 case atStart=>exact ⟨0,bs ++ be4 (l.length : Int),rfl,by omega,by omega,⟨by omega⟩,⟨by simp⟩,HI,HB,HK⟩
 case round =>
  clear HB HI HK
  obtain ⟨x,bx,rfl,p0,p1,HKQ,HBX,HI,HB,HK⟩:=hrel
  by_cases hlt : x < (l.length : Int)
  ·have c0 : decide (x < (l.length : Int)) = true:=decide_eq_true hlt
   have HLX:=As.mk (show bx.length ≤ 100000000000000 by
    have h1:=listO_len (l.take x.toNat) (fun y hy=>HS.out y (List.mem_of_mem_take hy))
    rw [List.length_take] at h1
    have h2:=HL1.out
    have h3 : (be4 (l.length : Int)).length = 4:=rfl
    rw [HBX.out,List.length_append,List.length_append]
    omega)
   have hxl : x.toNat < l.length:=by omega
   have hrd : rdOf ByteArray.empty l x = l[x.toNat]:=by
    unfold rdOf
    rw [List.getD_eq_getElem?_getD,List.getElem?_eq_getElem hxl]
    rfl
   have HSX:=As.mk (show (rdOf ByteArray.empty l x).size ≤ 100000000 by rw [hrd];have:=HS.out _ (List.getElem_mem hxl);omega)
   have HRD:=As.mk hrd
   have HXL:=As.mk hxl
   obtain ⟨ad,e_,hx_0⟩:=Kd.at_string (HR.out _ HB.out HK.out) x p0 hlt
   cases e_
   have P0:=As.mk p0
   have P1:=As.mk hlt
   have hw1 : wrap64 (x + 1) = x + 1:=IntWalk.wrap64_in (x + 1) (by omega)
   replace p0:=eq_true p0
   replace hlt:=eq_true hlt
   clear hrd p1
   go_wp2_with (first | (go_at_call 118;(with_reducible refine (text_good g bx (rdOf ByteArray.empty l x) HSX.out HLX.out w0 _ HI.out HB.out).mono ?_);rintro er w3 ⟨rfl,hI1,hB1,hK1⟩;have n0_:=As.mk hI1;have n1_:=As.mk hB1;have n2_:=As.mk (KeepT.trans HK.out hK1);clear HI HB HK hI1 hB1 hK1;have HI:=n0_;have HB:=n1_;have HK:=n2_;clear n0_ n1_ n2_))
   go_roundg (gk - 1)
   case measure=>have:=HKQ.out;have:=P1.out;omega
   case rel=>exact ⟨x + 1,bx ++ textO (rdOf ByteArray.empty l x),(by first | rfl | rw [hw1]),by have:=P0.out;omega,by have:=P1.out;omega,⟨by have:=HKQ.out;have:=P1.out;omega⟩,⟨by
    have h1:=HXL.out
    have h2:=P0.out
    rw [HBX.out,HRD.out,List.append_assoc,show (x + 1).toNat = x.toNat + 1 by omega,List.take_succ_eq_append_getElem h1,List.flatMap_append,List.flatMap_singleton]⟩,HI,HB,HK⟩
  ·have c0 : decide (x < (l.length : Int)) = false:=decide_eq_false hlt
   have hx : x.toNat = l.length:=by omega
   go_wp2_with (fail)
   first | go_end0 | ((try simp only [Exit.inBlock,Exit.then]);refine bodyPost_ret (results_none rfl _ _ _) rfl ?_)
   have h1:=HBX.out
   rw [hx,List.take_length,List.append_assoc] at h1
   rw [h1] at HI
   exact ⟨rfl,(by repeat (first | (with_reducible first | exact HI.out | apply WrR.drewN | apply WrR.drew | apply WrR.err) | exact HI.out)),(by repeat (first | (with_reducible first | exact HB.out | apply bA | apply bN | apply bD | refine bT ?_ HI.out.ge) | exact HB.out)),(by repeat (first | (with_reducible first | exact HK.out | apply KeepT.set_ | apply KeepT.drewN | apply KeepT.drew | apply KeepT.alloc) | exact HK.out))⟩
theorem wr_bytes (g : Nat) (bs : List Int) (e : Int) (hl : bs.length ≤ 100000000000000) (w0 w : World) (hI : WrR w0 w g bs e) :
  Calls Tryz.prog 79 #[.pointer (some ⟨g,0,none⟩)] w fun r w'=>∃ vv,r = .returned vv ∧ Kd.R (Kd.int .u8) 5 w' w.heap.size (fun _=>True) vv bs ∧ Below w.heap.size w w':=by
 have HCL:=As.mk (show bytes_Clone.f bs = some bs by unfold bytes_Clone.f;rw [if_pos (by omega)])
 obtain ⟨vv,hg_,hge_,hr_⟩:=hI
 obtain ⟨Ad,cp,rfl,hlv,hCv⟩:=Kd.R_reads hr_
 have HCR:=As.mk hCv
 have HCC:=As.mk hlv
 have hcz_0 : w.cell? ⟨g,0,none⟩ = some (.slice Ad bs.length cp):=(bC hg_ 0).trans rfl
 have hfz_0:=bF hg_ 0
 clear hg_ hge_ hr_ hlv hCv hl
 go_enter Tryz.func79,Tryz.ntmps79
 go_wp2_with (first | (go_at_call 120;(with_reducible refine (bytes_Clone.calls Ad cp bs bs _ HCR.out HCC.out HCL.out).mono ?_);rintro er w1 ⟨vv,rfl,hO1,hb1⟩;have HO1:=As.mk hO1;have HBC:=As.mk hb1;clear hO1 hb1))
 go_ret
 exact ⟨_,rfl,HO1.out,HBC.out⟩
end Go.Proofs.YtmlebgikdegjjaaGreatDoor.Hd
