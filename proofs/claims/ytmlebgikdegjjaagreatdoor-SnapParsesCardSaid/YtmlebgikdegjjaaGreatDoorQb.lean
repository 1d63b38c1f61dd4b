/- The reference's reader, walked. -/
import Derived.Test.YtmlebgikdegjjaaGreatDoorQa
set_option maxHeartbeats 16000000
set_option maxRecDepth 100000
namespace Go.Proofs.YtmlebgikdegjjaaGreatDoor.Hd
open Go.RowKit Go.Proofs.YtmlebgikdegjjaaGreatDoorW.PrintWords Go.Proofs.YtmlebgikdegjjaaGreatDoorW.PrintLast Go.Proofs.YtmlebgikdegjjaaGreatDoorW.PrintMore
attribute [local go_sem] max2_int min2_int max_two min_two max_three min_three max_four min_four
set_option linter.unusedVariables false
set_option linter.unusedSimpArgs false
theorem strOf_size (bs : List Int) : (strOfNums bs).size = bs.length:=by simp [strOfNums,ByteArray.size]
theorem bt_strOf {bs : List Int} (hb : BytesOk bs) (x : Int) (h0 : 0 ≤ x) (h1 : x < (bs.length : Int)) : bt (strOfNums bs) x = rd bs x:=by
 have hx : x.toNat < bs.length:=by omega
 have hc:=hb _ (List.getElem_mem hx)
 unfold bt rd
 rw [dif_pos (by rw [strOf_size];exact hx),List.getD_eq_getElem?_getD,List.getElem?_eq_getElem hx]
 simp [strOfNums,ByteArray.getElem_eq_getElem_data]
 omega
theorem strOf_take (bs : List Int) (n : Nat) : (strOfNums bs).extract 0 n = strOfNums (bs.take n):=by
 apply ByteArray.ext
 simp [strOfNums,ByteArray.data_extract,List.map_take]
theorem strOf_drop (bs : List Int) (n m : Nat) (h : bs.length ≤ m) : (strOfNums bs).extract n m = strOfNums (bs.drop n):=by
 apply ByteArray.ext
 apply Array.ext'
 rw [ByteArray.data_extract,Array.toList_extract]
 show ((bs.map fun n=>UInt8.ofNat n.toNat).drop n).take (m - n) = (bs.drop n).map fun n=>UInt8.ofNat n.toNat
 rw [List.take_of_length_le (by rw [List.length_drop,List.length_map];omega),List.map_drop]
theorem val_next2 (bs : List Int) (x : Int) (hb : BytesOk bs) (hs : bs.length ≤ 8) (h0 : 0 ≤ x) (h1 : x < (bs.length : Int)) :
  IntKind.u64.wrap (IntKind.u64.wrap (val (bs.take x.toNat) * 256) + IntKind.u64.wrap (bt (strOfNums bs) x)) = val (bs.take (x + 1).toNat):=by
 have e : (x + 1).toNat = x.toNat + 1:=by omega
 have hlt : x.toNat < bs.length:=by omega
 have er : rd bs x = bs[x.toNat]:=by
  unfold rd
  rw [List.getD_eq_getElem?_getD,List.getElem?_eq_getElem hlt]
  rfl
 have hc:=hb _ (List.getElem_mem hlt)
 have hv:=val_bound x.toNat (bs.take x.toNat) (by rw [List.length_take];omega) (hb.take _)
 have h7 : val (bs.take x.toNat) < 72057594037927936:=by
  have hn : (256 : Nat) ^ x.toNat ≤ 72057594037927936:=Nat.le_trans (Nat.pow_le_pow_right (by decide) (show x.toNat ≤ 7 by omega)) (by decide)
  have en : (256 : Int) ^ x.toNat = ((256 ^ x.toNat : Nat) : Int):=by rw [Int.natCast_pow];rfl
  have hv2:=hv.2
  rw [en] at hv2
  generalize (256 : Nat) ^ x.toNat = m at hn hv2
  omega
 rw [bt_strOf hb x h0 h1,er,u64_mod (val (bs.take x.toNat) * 256) (by omega),u64_mod bs[x.toNat] (by omega),u64_mod _ (by omega),e,List.take_succ_eq_append_getElem hlt,val_snoc]
theorem value_calls (bs : List Int) (hb : BytesOk bs) (hs : bs.length ≤ 8) (w : World) : Calls Tryz.prog 135 #[.string (strOfNums bs)] w fun r w'=>r = .returned (.int .u64 (val bs)) ∧ Drawn0 w w':=by
 have HBO:=As.mk hb
 have HS:=As.mk hs
 have hsz:=strOf_size bs
 clear hb hs
 go_enter Tryz.func135,Tryz.ntmps135
 go_wp2
 go_loopg [3,4] bs.length (fun kq v3 v4 w'=>∃ (x : Int),v4 = .int .i64 x ∧ 0 ≤ x ∧ x ≤ (bs.length : Int) ∧ As ((kq : Int) + x = (bs.length : Int)) ∧ v3 = .int .u64 (val (bs.take x.toNat)) ∧ Drawn0 w w')
 case atStart=>exact ⟨0,rfl,by omega,by omega,⟨by simp⟩,by simp [val],by repeat (first | exact Drawn0.refl _ | apply Drawn0.step)⟩
 case round =>
  obtain ⟨x,rfl,p0,p1,HK1,rfl,⟨m1,rfl⟩⟩:=hrel
  by_cases hlt : x < (bs.length : Int)
  ·have c3b0 : decide (x < (bs.length : Int)) = true:=decide_eq_true hlt
   have hstep:=val_next2 bs x HBO.out HS.out p0 hlt
   have p4 : (0 ≤ x) = True:=eq_true p0
   have q4 : (x < (bs.length : Int)) = True:=eq_true hlt
   have hx4:=bt_at (strOfNums bs) x
   have hs8:=HS.out
   go_wp2
   go_roundg (gk - 1)
   case measure=>have:=HK1.out;omega
   case rel=>exact ⟨x + 1,rfl,by omega,by omega,⟨by have:=HK1.out;omega⟩,(by first | rfl | rw [hstep]),by repeat (first | exact Drawn0.refl _ | apply Drawn0.step)⟩
  ·have c3b0 : decide (x < (bs.length : Int)) = false:=decide_eq_false hlt
   have ex : bs.take x.toNat = bs:=List.take_of_length_le (by omega)
   go_wp2
   go_ret
   exact ⟨(by first | rfl | rw [ex]),by repeat (first | exact Drawn0.refl _ | apply Drawn0.step)⟩
def RfR (w0 w : World) (g : Nat) (bs : List Int) (e : Int) : Prop:=w.heap[g]? = some (.cells #[.string (strOfNums bs),.int .i64 e] 136 (0,0)) ∧ w0.heap.size ≤ g
theorem RfR.keep {w0 w w' : World} {g g' : Nat} {bs : List Int} {e : Int} (h : RfR w0 w g bs e) (hk : KeepBut w w' g' none) (hne : g ≠ g') : RfR w0 w' g bs e:=⟨(hk.2 g (blk_lt h.1) hne (by simp)).trans h.1,h.2⟩
theorem RfR.below {w0 w w' : World} {g : Nat} {bs : List Int} {e : Int} (h : RfR w0 w g bs e) (hb : Below w.heap.size w w') : RfR w0 w' g bs e:=⟨blk_below h.1 hb,h.2⟩
theorem RfR.ge {w0 w : World} {g : Nat} {bs : List Int} {e : Int} (h : RfR w0 w g bs e) : w0.heap.size ≤ g:=h.2
theorem RfR.lt {w0 w : World} {g : Nat} {bs : List Int} {e : Int} (h : RfR w0 w g bs e) : g < w.heap.size:=blk_lt h.1
theorem RfR.err {w0 w : World} {g : Nat} {bs : List Int} {e : Int} (h : RfR w0 w g bs e) (x : Int) : RfR w0 (w.setCell ⟨g,1,none⟩ (.int .i64 x)) g bs x:=⟨by simpa using blk_set h.1 1 (.int .i64 x),h.2⟩
theorem RfR.row {w0 w : World} {g : Nat} {bs : List Int} {e : Int} (h : RfR w0 w g bs e) (bs' : List Int) : RfR w0 (w.setCell ⟨g,0,none⟩ (.string (strOfNums bs'))) g bs' e:=⟨by simpa using blk_set h.1 0 (.string (strOfNums bs')),h.2⟩
theorem RfR.drewN {w0 w : World} {g : Nat} {bs : List Int} {e : Int} (h : RfR w0 w g bs e) (m : Nat) : RfR w0 (w.drewN m) g bs e:=h
theorem RfR.drew {w0 w : World} {g : Nat} {bs : List Int} {e : Int} (h : RfR w0 w g bs e) : RfR w0 w.drew g bs e:=h
theorem RfR.alloc {w0 w : World} {g : Nat} {bs : List Int} {e : Int} (h : RfR w0 w g bs e) (o : Obj) : RfR w0 (w.alloc o) g bs e:=h.below (bA (Below.refl _ _) o)
theorem RfR.far {w0 w : World} {g : Nat} {bs : List Int} {e : Int} {p : Addr} (h : RfR w0 w g bs e) (hne : g ≠ p.block) (u : Value) : RfR w0 (w.setCell p u) g bs e:=⟨blk_far h.1 hne u,h.2⟩
theorem num_refs (g : Nat) (bs : List Int) (e : Int) (hb : BytesOk bs) (w0 w : World) (hI : RfR w0 w g bs e) (hB : Below w0.heap.size w0 w) :
  Calls Tryz.prog 100 #[.pointer (some ⟨g,0,none⟩)] w fun r w'=>r = .returned (.int .i64 (numR bs e).1) ∧ RfR w0 w' g (numR bs e).2.1 (numR bs e).2.2 ∧ Below w0.heap.size w0 w' ∧ KeepBut w w' g none:=by
 have HI:=As.mk hI
 have HB:=As.mk hB
 have HK:=As.mk (KeepBut.refl w g none)
 clear hI hB
 have hcz_0 : w.cell? ⟨g,0,none⟩ = some (.string (strOfNums bs)):=(bC HI.out.1 0).trans rfl
 have hcz_1 : w.cell? ⟨g,1,none⟩ = some (.int .i64 e):=(bC HI.out.1 1).trans rfl
 have hfz_0:=bF HI.out.1 0
 have hfz_1:=bF HI.out.1 1
 have HBO:=As.mk hb
 have hsz:=strOf_size bs
 have ht4:=strOf_take bs 4
 have hd4:=strOf_drop bs 4 bs.length (Nat.le_refl _)
 rcases numR_cases bs e hb with ⟨q,c1⟩ | ⟨q,c1,c2⟩ | ⟨q,c1,c2,c3⟩ | ⟨q,c1,c2,c3,c4⟩
 ·rw [q]
  have c1a : (e != 0) = true:=bne_iff_ne.mpr c1
  go_enter Tryz.func100,Tryz.ntmps100
  go_wp2_with (fail)
  go_ret
  exact ⟨rfl,(by repeat (first | (with_reducible first | exact HI.out | apply RfR.alloc | apply RfR.drewN | apply RfR.drew | apply RfR.err) | exact HI.out)),(by repeat (first | (with_reducible first | exact HB.out | apply bA | apply bN | apply bD | refine bT ?_ HI.out.ge) | exact HB.out)),(by repeat (first | (with_reducible first | exact HK.out | apply KeepBut.set_ | apply keep_drewN | apply keep_drew | apply keep_alloc) | exact HK.out))⟩
 ·rw [q]
  subst c1
  have c2a : decide ((bs.length : Int) < 4) = true:=decide_eq_true (by omega)
  go_enter Tryz.func100,Tryz.ntmps100
  go_wp2_with (fail)
  go_ret
  exact ⟨rfl,(by repeat (first | (with_reducible first | exact HI.out | apply RfR.alloc | apply RfR.drewN | apply RfR.drew | apply RfR.err) | exact HI.out)),(by repeat (first | (with_reducible first | exact HB.out | apply bA | apply bN | apply bD | refine bT ?_ HI.out.ge) | exact HB.out)),(by repeat (first | (with_reducible first | exact HK.out | apply KeepBut.set_ | apply keep_drewN | apply keep_drew | apply keep_alloc) | exact HK.out))⟩
 ·rw [q]
  subst c1
  have c2a : decide ((bs.length : Int) < 4) = false:=decide_eq_false (by omega)
  have c3b : decide ((2147483647 : Int) < val (bs.take 4)) = true:=decide_eq_true c3
  go_enter Tryz.func100,Tryz.ntmps100
  go_wp2_with (first | (go_at_call 135;(with_reducible refine (value_calls (bs.take 4) (HBO.out.take 4) (by rw [List.length_take];omega) _).mono ?_);rintro er w1 ⟨rfl,⟨m1,rfl⟩⟩))
  go_ret
  exact ⟨rfl,(by repeat (first | (with_reducible first | exact HI.out | apply RfR.alloc | apply RfR.drewN | apply RfR.drew | apply RfR.err) | exact HI.out)),(by repeat (first | (with_reducible first | exact HB.out | apply bA | apply bN | apply bD | refine bT ?_ HI.out.ge) | exact HB.out)),(by repeat (first | (with_reducible first | exact HK.out | apply KeepBut.set_ | apply keep_drewN | apply keep_drew | apply keep_alloc) | exact HK.out))⟩
 ·rw [q]
  subst c1
  have c2a : decide ((bs.length : Int) < 4) = false:=decide_eq_false (by omega)
  have c3b : decide ((2147483647 : Int) < val (bs.take 4)) = false:=decide_eq_false (by omega)
  have c4b : IntKind.i64.wrap (val (bs.take 4)) = val (bs.take 4):=IntWalk.i64_in _ (by omega)
  go_enter Tryz.func100,Tryz.ntmps100
  go_wp2_with (first | (go_at_call 135;(with_reducible refine (value_calls (bs.take 4) (HBO.out.take 4) (by rw [List.length_take];omega) _).mono ?_);rintro er w1 ⟨rfl,⟨m1,rfl⟩⟩))
  go_ret
  exact ⟨rfl,RfR.row (by repeat (first | (with_reducible first | exact HI.out | apply RfR.alloc | apply RfR.drewN | apply RfR.drew | apply RfR.err) | exact HI.out)) _,(by repeat (first | (with_reducible first | exact HB.out | apply bA | apply bN | apply bD | refine bT ?_ HI.out.ge) | exact HB.out)),(by repeat (first | (with_reducible first | exact HK.out | apply KeepBut.set_ | apply keep_drewN | apply keep_drew | apply keep_alloc) | exact HK.out))⟩
def rtext.T1 : Bool × List (List Nat × List Nat):=(true,[([],[]),([0],[0]),([1],[1]),([2],[2]),([],[]),([4],[4]),([5],[5]),([6],[6]),([3,7],[3,7]),([],[]),([9,8,0,1,2,3,4,5,6,7,8,9],[8,9])])
def rtext.B1 : List Nat:=[0,1,3,7,0,16,48,112,255,0,1023]
theorem rtext.tab1 : rtab .any (opsOf Tryz.f136 1) = rtext.T1:=by kernel_rfl
theorem rtext.bits1 : waitsOk rtext.T1.2 rtext.B1 = true:=by kernel_rfl
theorem keep_other {w W W' : World} {g gx : Nat} (hk : KeepBut w W g none) (h : KeepBut W W' gx none) (hx : w.heap.size = gx) : KeepBut w W' g none :=
 ⟨Nat.le_trans hk.1 h.1,fun i hi hg hn=>(h.2 i (Nat.lt_of_lt_of_le hi hk.1) (by omega) (by simp)).trans (hk.2 i hi hg hn)⟩
theorem text_refs (g : Nat) (bs : List Int) (e : Int) (hb : BytesOk bs) (w0 w : World) (hI : RfR w0 w g bs e) (hB : Below w0.heap.size w0 w) :
  Calls Tryz.prog 136 #[.pointer (some ⟨g,0,none⟩)] w fun r w'=>r = .returned (.string (textR bs e).1) ∧ RfR w0 w' g (textR bs e).2.1 (textR bs e).2.2 ∧ Below w0.heap.size w0 w' ∧ KeepBut w w' g none:=by
 have HI:=As.mk hI
 have HB:=As.mk hB
 have HK:=As.mk (KeepBut.refl w g none)
 clear hI hB
 have HBO:=As.mk hb
 obtain ⟨n,bs1,e1,hq0⟩ : ∃ n bs1 e1,numR bs e = (n,bs1,e1):=⟨_,_,_,rfl⟩
 have hq:=As.mk hq0
 obtain ⟨f1,f2,f3,f4,f5,f6,f7⟩:=numR_facts hb hq0
 have HB1:=As.mk f1
 have F2:=As.mk f2
 have F6:=As.mk f6
 clear hb hq0 f1 f2 f6
 have hcz_0 : w.cell? ⟨g,0,none⟩ = some (.string (strOfNums bs)):=(bC HI.out.1 0).trans rfl
 have hcz_1 : w.cell? ⟨g,1,none⟩ = some (.int .i64 e):=(bC HI.out.1 1).trans rfl
 have hfz_0:=bF HI.out.1 0
 have hfz_1:=bF HI.out.1 1
 go_enter Tryz.func136,Tryz.ntmps136
 go_wp2_with (fail)
 refine start_ (n:=11) (S:=fun w'=>w'.cell? ⟨g,0,none⟩ = some (.string (strOfNums bs)) ∧ w'.cell? ⟨g,1,none⟩ = some (.int .i64 e)) (ds:=[]) #[false,false,false,false,false,false,false,false,false,false,false] (by kernel_rfl) rfl rfl ⟨hcz_0,hcz_1⟩ (fun hHeld=>?_);refine with_tabW rtext.tab1 rtext.bits1 (fun HT_ HW_=>?_)
 refine pure_ (i:=0) (N:=some 5) (v:=?_) (a':=?_) #[true,false,false,false,false,false,false,false,false,false,false] rfl rfl (any_of HT_.out (by kernel_rfl)) (fun _ _ _ h=>h) (Or.inl ⟨by rfl,?_⟩) ?_ ?_
 rotate_left
 ·intro w'
  go_simp
  with_reducible rfl
 rotate_left
 ·simp only [Act.put,List.setIfInBounds_toArray,List.set_cons_zero,List.set_cons_succ,i64_w,i32_w]
  rfl
 refine pure_ (i:=1) (N:=some 6) (v:=?_) (a':=?_) #[true,true,false,false,false,false,false,false,false,false,false] rfl rfl (any_of HT_.out (by kernel_rfl)) (fun _ _ _ h=>h) (Or.inl ⟨by rfl,?_⟩) ?_ ?_
 rotate_left
 ·intro w'
  go_simp
  with_reducible rfl
 rotate_left
 ·simp only [Act.put,List.setIfInBounds_toArray,List.set_cons_zero,List.set_cons_succ,i64_w,i32_w]
  rfl
 refine pure_ (i:=2) (N:=some 7) (v:=?_) (a':=?_) #[true,true,true,false,false,false,false,false,false,false,false] rfl rfl (any_of HT_.out (by kernel_rfl)) (fun _ _ _ h=>h) (Or.inl ⟨by rfl,?_⟩) ?_ ?_
 rotate_left
 ·intro w'
  go_simp
  with_reducible rfl
 rotate_left
 ·simp only [Act.put,List.setIfInBounds_toArray,List.set_cons_zero,List.set_cons_succ,i64_w,i32_w]
  rfl
 refine pure_ (i:=4) (N:=some 9) (v:=?_) (a':=?_) #[true,true,true,false,true,false,false,false,false,false,false] rfl rfl (any_of HT_.out (by kernel_rfl)) (fun _ _ _ h=>h) (Or.inl ⟨by rfl,?_⟩) ?_ ?_
 rotate_left
 ·intro w'
  go_simp
  with_reducible rfl
 rotate_left
 ·simp only [Act.put,List.setIfInBounds_toArray,List.set_cons_zero,List.set_cons_succ,i64_w,i32_w]
  rfl
 refine pure_ (i:=5) (N:=some 10) (v:=?_) (a':=?_) #[true,true,true,false,true,true,false,false,false,false,false] rfl rfl (any_of HT_.out (by kernel_rfl)) (fun _ _ _ h=>h) (Or.inl ⟨by rfl,?_⟩) ?_ ?_
 rotate_left
 ·intro w'
  go_simp
  with_reducible rfl
 rotate_left
 ·simp only [Act.put,List.setIfInBounds_toArray,List.set_cons_zero,List.set_cons_succ,i64_w,i32_w]
  rfl
 refine pure_ (i:=6) (N:=some 11) (v:=?_) (a':=?_) #[true,true,true,false,true,true,true,false,false,false,false] rfl rfl (any_of HT_.out (by kernel_rfl)) (fun _ _ _ h=>h) (Or.inl ⟨by rfl,?_⟩) ?_ ?_
 rotate_left
 ·intro w'
  go_simp
  with_reducible rfl
 rotate_left
 ·simp only [Act.put,List.setIfInBounds_toArray,List.set_cons_zero,List.set_cons_succ,i64_w,i32_w]
  rfl
 refine take_ (i:=3) (N:=some 8) (v:=?_) (a':=?_) #[true,true,true,true,true,true,true,false,false,false,false] rfl rfl (take_ofW HT_.out HW_.out (by kernel_rfl)) (fun _ _ _ h=>h) (Or.inl ⟨by rfl,?_⟩) hHeld ?_ ?_
 rotate_left
 ·rintro w' ⟨s0,s1⟩
  go_simp
  with_reducible rfl
 rotate_left
 ·simp only [Act.put,List.setIfInBounds_toArray,List.set_cons_zero,List.set_cons_succ,i64_w,i32_w]
  rfl
 refine take_ (i:=7) (N:=some 12) (v:=?_) (a':=?_) #[true,true,true,true,true,true,true,true,false,false,false] rfl rfl (take_ofW HT_.out HW_.out (by kernel_rfl)) (fun _ _ _ h=>h) (Or.inl ⟨by rfl,?_⟩) hHeld ?_ ?_
 rotate_left
 ·rintro w' ⟨s0,s1⟩
  go_simp
  with_reducible rfl
 rotate_left
 ·simp only [Act.put,List.setIfInBounds_toArray,List.set_cons_zero,List.set_cons_succ,i64_w,i32_w]
  rfl
 refine pure_ (i:=8) (N:=some 13) (v:=?_) (a':=?_) #[true,true,true,true,true,true,true,true,true,false,false] rfl rfl (any_of HT_.out (by kernel_rfl)) (fun _ _ _ h=>h) (Or.inl ⟨by rfl,?_⟩) ?_ ?_
 rotate_left
 ·intro w'
  go_simp
  with_reducible rfl
 rotate_left
 ·simp only [Act.put,List.setIfInBounds_toArray,List.set_cons_zero,List.set_cons_succ,i64_w,i32_w]
  rfl
 refine one_ (i:=9) (N:=some 3) #[true,true,true,true,true,true,true,true,true,true,false] rfl rfl (one_of HT_.out (by kernel_rfl)) (by decide) (fun K hK=>?_)
 refine value_ (w1:=?_) (v:=?_) (by rfl) rfl ?_ ?_
 rotate_left 2
 ·go_simp
  constructor
  ·rfl
  ·rfl
 refine hK.out _ _ ⟨((RfR.alloc HI.out _).1 |> fun h=>(bC h 0).trans rfl),((RfR.alloc HI.out _).1 |> fun h=>(bC h 1).trans rfl)⟩ (fun hHeld=>?_)
 clear hK K
 refine norm_ (a':=?_) ?_ ?_
 rotate_left
 ·show Act.put _ (some 3) _ = _
  simp only [Act.put,List.setIfInBounds_toArray,List.set_cons_zero,List.set_cons_succ,i64_w,i32_w]
  rfl
 refine one_ (i:=10) (N:=none) #[true,true,true,true,true,true,true,true,true,true,true] rfl rfl (one_of HT_.out (by kernel_rfl)) (by decide) (fun K hK=>?_)
 refine skip_ (w1:=?_) (by rfl) rfl ?_ ?_
 rotate_left
 ·go_simp
  rfl
 refine hK.out _ _ ⟨((RfR.alloc HI.out _).1 |> fun h=>(bC h 0).trans rfl),((RfR.alloc HI.out _).1 |> fun h=>(bC h 1).trans rfl)⟩ (fun hHeld=>?_)
 clear hK K
 refine done_ (done_of HT_.out (by kernel_rfl)) ?_
 have x0_:=As.mk (show RfR w0 (w.alloc (Obj.cells #[.string (strOfNums bs),.int .i64 e] 136)).drew w.heap.size bs e from ⟨blk_new w _,HB.out.size⟩)
 have x1_:=As.mk (show RfR w0 (w.alloc (Obj.cells #[.string (strOfNums bs),.int .i64 e] 136)).drew g bs e from RfR.drew (RfR.alloc HI.out _))
 have x2_:=As.mk (show Below w0.heap.size w0 (w.alloc (Obj.cells #[.string (strOfNums bs),.int .i64 e] 136)).drew from bD (HB.out.alloc HB.out.size _))
 have x3_:=As.mk (show KeepBut w (w.alloc (Obj.cells #[.string (strOfNums bs),.int .i64 e] 136)).drew g none from keep_drew (keep_alloc (KeepBut.refl w g none) _))
 have x4_:=As.mk (show g ≠ w.heap.size from fun h=>by have:=HI.out.lt;have e_ : w.drew.heap.size = w.heap.size:=rfl;omega)
 have x5_:=As.mk (show w.heap.size ≤ w.heap.size from Nat.le_refl _)
 have x6_:=As.mk HI.out.lt
 clear HI HB HK hcz_0 hcz_1 hfz_0 hfz_1
 generalize (w.alloc (Obj.cells #[.string (strOfNums bs),.int .i64 e] 136)).drew = wx at x0_ x1_ x2_ x3_ ⊢
 generalize hgx : w.heap.size = gx at x0_ x4_ ⊢
 rw [hgx] at x5_
 have HGX:=As.mk hgx
 clear hgx
 have HX:=x0_
 have HI:=x1_
 have HB:=x2_
 have HK:=x3_
 have HNE:=x4_
 have HGE:=x5_
 have HGL:=x6_
 clear x0_ x1_ x2_ x3_ x4_ x5_ x6_
 have HGX':=As.mk (show w.heap.size ≤ gx by have:=HGX.out;omega)
 have hsz:=strOf_size bs1
 have hnb:=HNE.out
 have hnc:=HNE.out.symm
 by_cases c1 : e1 = 0
 ·have c1a : (e1 == 0) = true:=beq_iff_eq.mpr c1
  have c1b : (e1 != 0) = false:=bne_eq_false_iff_eq.mpr c1
  have E0 : e = 0:=by
   by_cases h : e = 0
   ·exact h
   ·exact absurd c1 (F6.out h)
  by_cases c2 : n > (bs1.length : Int)
  ·have c2a : decide ((bs1.length : Int) < n) = true:=decide_eq_true c2
   have QT:=As.mk (textR_short hq.out c1 c2)
   clear E0
   go_wp2_with (first | (go_at_call 100;(with_reducible refine (num_refs gx bs e HBO.out w0 _ ?sideI ?sideB).mono ?_);(case sideI=>exact HX.out);(case sideB=>exact HB.out);rintro er w1 ⟨rfl,hX1,hB1,hK1⟩;rw [hq.out] at hX1;simp only [] at hX1;rw [hq.out];simp only [];have n0_:=As.mk hX1;have n1_:=As.mk hB1;have n2_:=As.mk (show KeepBut w w1 g none from keep_other HK.out hK1 HGX.out);have n3_:=As.mk (HI.out.keep hK1 HNE.out);clear HX HI HB HK hX1 hB1 hK1;have HX:=n0_;have HB:=n1_;have HK:=n2_;have HI:=n3_;clear n0_ n1_ n2_ n3_;have hczx_0 : w1.cell? ⟨gx,0,none⟩ = some (.string (strOfNums bs1)):=(bC HX.out.1 0).trans rfl;have hczx_1 : w1.cell? ⟨gx,1,none⟩ = some (.int .i64 e1):=(bC HX.out.1 1).trans rfl;have hfzx_0:=bF HX.out.1 0;have hfzx_1:=bF HX.out.1 1;have hczb_0 : w1.cell? ⟨g,0,none⟩ = some (.string (strOfNums bs)):=(bC HI.out.1 0).trans rfl;have hczb_1 : w1.cell? ⟨g,1,none⟩ = some (.int .i64 e):=(bC HI.out.1 1).trans rfl;have hfzb_0:=bF HI.out.1 0;have hfzb_1:=bF HI.out.1 1))
   go_ret
   rw [QT.out]
   exact ⟨rfl,RfR.err (RfR.far HI.out HNE.out _) _,(by repeat (first | (with_reducible first | exact HB.out | apply bA | apply bN | apply bD | refine bT ?_ HI.out.ge | refine bT ?_ HX.out.ge) | exact HB.out)),(by repeat (first | (with_reducible first | exact HK.out | apply KeepBut.set_ | apply keep_drewN | apply keep_drew | apply keep_alloc | refine keep_far ?_ HGX'.out _) | exact HK.out))⟩
  ·have c2a : decide ((bs1.length : Int) < n) = false:=decide_eq_false c2
   have QT:=As.mk (textR_good hq.out c1 (by omega))
   have hle : n.toNat ≤ bs1.length:=by omega
   have htk:=strOf_take bs1 n.toNat
   have hdr:=strOf_drop bs1 n.toNat bs1.length (Nat.le_refl _)
   have hn0 : decide (n < 0) = false:=decide_eq_false (by omega)
   have EE0:=As.mk E0
   clear E0
   go_wp2_with (first | (go_at_call 100;(with_reducible refine (num_refs gx bs e HBO.out w0 _ ?sideI ?sideB).mono ?_);(case sideI=>exact HX.out);(case sideB=>exact HB.out);rintro er w1 ⟨rfl,hX1,hB1,hK1⟩;rw [hq.out] at hX1;simp only [] at hX1;rw [hq.out];simp only [];have n0_:=As.mk hX1;have n1_:=As.mk hB1;have n2_:=As.mk (show KeepBut w w1 g none from keep_other HK.out hK1 HGX.out);have n3_:=As.mk (HI.out.keep hK1 HNE.out);clear HX HI HB HK hX1 hB1 hK1;have HX:=n0_;have HB:=n1_;have HK:=n2_;have HI:=n3_;clear n0_ n1_ n2_ n3_;have hczx_0 : w1.cell? ⟨gx,0,none⟩ = some (.string (strOfNums bs1)):=(bC HX.out.1 0).trans rfl;have hczx_1 : w1.cell? ⟨gx,1,none⟩ = some (.int .i64 e1):=(bC HX.out.1 1).trans rfl;have hfzx_0:=bF HX.out.1 0;have hfzx_1:=bF HX.out.1 1;have hczb_0 : w1.cell? ⟨g,0,none⟩ = some (.string (strOfNums bs)):=(bC HI.out.1 0).trans rfl;have hczb_1 : w1.cell? ⟨g,1,none⟩ = some (.int .i64 e):=(bC HI.out.1 1).trans rfl;have hfzb_0:=bF HI.out.1 0;have hfzb_1:=bF HI.out.1 1))
   go_ret
   rw [QT.out]
   exact ⟨rfl,by rw [← EE0.out];exact RfR.row (by repeat (first | (with_reducible first | exact HI.out | apply RfR.alloc | apply RfR.drewN | apply RfR.drew | apply RfR.err) | exact HI.out)) _,(by repeat (first | (with_reducible first | exact HB.out | apply bA | apply bN | apply bD | refine bT ?_ HI.out.ge | refine bT ?_ HX.out.ge) | exact HB.out)),(by repeat (first | (with_reducible first | exact HK.out | apply KeepBut.set_ | apply keep_drewN | apply keep_drew | apply keep_alloc | refine keep_far ?_ HGX'.out _) | exact HK.out))⟩
 ·have c1a : (e1 == 0) = false:=beq_eq_false_iff_ne.mpr c1
  have c1b : (e1 != 0) = true:=bne_iff_ne.mpr c1
  have QT:=As.mk (textR_err hq.out c1)
  go_wp2_with (first | (go_at_call 100;(with_reducible refine (num_refs gx bs e HBO.out w0 _ ?sideI ?sideB).mono ?_);(case sideI=>exact HX.out);(case sideB=>exact HB.out);rintro er w1 ⟨rfl,hX1,hB1,hK1⟩;rw [hq.out] at hX1;simp only [] at hX1;rw [hq.out];simp only [];have n0_:=As.mk hX1;have n1_:=As.mk hB1;have n2_:=As.mk (show KeepBut w w1 g none from keep_other HK.out hK1 HGX.out);have n3_:=As.mk (HI.out.keep hK1 HNE.out);clear HX HI HB HK hX1 hB1 hK1;have HX:=n0_;have HB:=n1_;have HK:=n2_;have HI:=n3_;clear n0_ n1_ n2_ n3_;have hczx_0 : w1.cell? ⟨gx,0,none⟩ = some (.string (strOfNums bs1)):=(bC HX.out.1 0).trans rfl;have hczx_1 : w1.cell? ⟨gx,1,none⟩ = some (.int .i64 e1):=(bC HX.out.1 1).trans rfl;have hfzx_0:=bF HX.out.1 0;have hfzx_1:=bF HX.out.1 1;have hczb_0 : w1.cell? ⟨g,0,none⟩ = some (.string (strOfNums bs)):=(bC HI.out.1 0).trans rfl;have hczb_1 : w1.cell? ⟨g,1,none⟩ = some (.int .i64 e):=(bC HI.out.1 1).trans rfl;have hfzb_0:=bF HI.out.1 0;have hfzb_1:=bF HI.out.1 1))
  go_ret
  rw [QT.out]
  exact ⟨rfl,RfR.err HI.out _,(by repeat (first | (with_reducible first | exact HB.out | apply bA | apply bN | apply bD | refine bT ?_ HI.out.ge | refine bT ?_ HX.out.ge) | exact HB.out)),(by repeat (first | (with_reducible first | exact HK.out | apply KeepBut.set_ | apply keep_drewN | apply keep_drew | apply keep_alloc | refine keep_far ?_ HGX'.out _) | exact HK.out))⟩
def rtexts.T1 : Bool × List (List Nat × List Nat):=(true,[([],[]),([0],[0]),([1],[1]),([2],[2]),([],[]),([4],[4]),([5],[5]),([6],[6]),([3,7],[3,7]),([],[]),([9,8,0,1,2,3,4,5,6,7,8,9],[8,9])])
def rtexts.B1 : List Nat:=[0,1,3,7,0,16,48,112,255,0,1023]
theorem rtexts.tab1 : rtab .any (opsOf Tryz.f137 1) = rtexts.T1:=by kernel_rfl
theorem rtexts.bits1 : waitsOk rtexts.T1.2 rtexts.B1 = true:=by kernel_rfl
theorem RfR.grown {w0 W w1 : World} {g : Nat} {bs : List Int} {e : Int} {v : Value} (h : RfR w0 W g bs e) (hg : W.grownBy w1 v.ownBlock) (hv : ∀ k,v.ownBlock = some k → g < k) : RfR w0 w1 g bs e:=⟨blk_grown h.1 hg (fun he=>by have:=hv g he.symm;omega),h.2⟩
theorem texts_refs (g : Nat) (bs : List Int) (e : Int) (hb : BytesOk bs) (w0 w : World) (hI : RfR w0 w g bs e) (hB : Below w0.heap.size w0 w) :
  Calls Tryz.prog 137 #[.pointer (some ⟨g,0,none⟩)] w fun r w'=>∃ v,r = .returned v ∧ Kd.R Kd.string 9 w' w0.heap.size (fun k=>w.heap.size ≤ k)  v (textsR bs e).1 ∧ RfR w0 w' g (textsR bs e).2.1 (textsR bs e).2.2 ∧ Below w0.heap.size w0 w' ∧ KeepBut w w' g none:=by
 have HI:=As.mk hI
 have HB:=As.mk hB
 have HK:=As.mk (KeepBut.refl w g none)
 clear hI hB
 have HBO:=As.mk hb
 obtain ⟨n,bs1,e1,hq0⟩ : ∃ n bs1 e1,numR bs e = (n,bs1,e1):=⟨_,_,_,rfl⟩
 have hq:=As.mk hq0
 obtain ⟨f1,f2,f3,f4,f5,f6,f7⟩:=numR_facts hb hq0
 have HB1:=As.mk f1
 have F2:=As.mk f2
 have F6:=As.mk f6
 clear hb hq0 f1 f2 f6
 have hcz_0 : w.cell? ⟨g,0,none⟩ = some (.string (strOfNums bs)):=(bC HI.out.1 0).trans rfl
 have hcz_1 : w.cell? ⟨g,1,none⟩ = some (.int .i64 e):=(bC HI.out.1 1).trans rfl
 have hfz_0:=bF HI.out.1 0
 have hfz_1:=bF HI.out.1 1
 go_enter Tryz.func137,Tryz.ntmps137
 go_wp2_with (fail)
 refine start_ (n:=11) (S:=fun w'=>w'.cell? ⟨g,0,none⟩ = some (.string (strOfNums bs)) ∧ w'.cell? ⟨g,1,none⟩ = some (.int .i64 e)) (ds:=[]) #[false,false,false,false,false,false,false,false,false,false,false] (by kernel_rfl) rfl rfl ⟨hcz_0,hcz_1⟩ (fun hHeld=>?_);refine with_tabW rtexts.tab1 rtexts.bits1 (fun HT_ HW_=>?_)
 refine pure_ (i:=0) (N:=some 7) (v:=?_) (a':=?_) #[true,false,false,false,false,false,false,false,false,false,false] rfl rfl (any_of HT_.out (by kernel_rfl)) (fun _ _ _ h=>h) (Or.inl ⟨by rfl,?_⟩) ?_ ?_
 rotate_left
 ·intro w'
  go_simp
  with_reducible rfl
 rotate_left
 ·simp only [Act.put,List.setIfInBounds_toArray,List.set_cons_zero,List.set_cons_succ,i64_w,i32_w]
  rfl
 refine pure_ (i:=1) (N:=some 8) (v:=?_) (a':=?_) #[true,true,false,false,false,false,false,false,false,false,false] rfl rfl (any_of HT_.out (by kernel_rfl)) (fun _ _ _ h=>h) (Or.inl ⟨by rfl,?_⟩) ?_ ?_
 rotate_left
 ·intro w'
  go_simp
  with_reducible rfl
 rotate_left
 ·simp only [Act.put,List.setIfInBounds_toArray,List.set_cons_zero,List.set_cons_succ,i64_w,i32_w]
  rfl
 refine pure_ (i:=2) (N:=some 9) (v:=?_) (a':=?_) #[true,true,true,false,false,false,false,false,false,false,false] rfl rfl (any_of HT_.out (by kernel_rfl)) (fun _ _ _ h=>h) (Or.inl ⟨by rfl,?_⟩) ?_ ?_
 rotate_left
 ·intro w'
  go_simp
  with_reducible rfl
 rotate_left
 ·simp only [Act.put,List.setIfInBounds_toArray,List.set_cons_zero,List.set_cons_succ,i64_w,i32_w]
  rfl
 refine pure_ (i:=4) (N:=some 11) (v:=?_) (a':=?_) #[true,true,true,false,true,false,false,false,false,false,false] rfl rfl (any_of HT_.out (by kernel_rfl)) (fun _ _ _ h=>h) (Or.inl ⟨by rfl,?_⟩) ?_ ?_
 rotate_left
 ·intro w'
  go_simp
  with_reducible rfl
 rotate_left
 ·simp only [Act.put,List.setIfInBounds_toArray,List.set_cons_zero,List.set_cons_succ,i64_w,i32_w]
  rfl
 refine pure_ (i:=5) (N:=some 12) (v:=?_) (a':=?_) #[true,true,true,false,true,true,false,false,false,false,false] rfl rfl (any_of HT_.out (by kernel_rfl)) (fun _ _ _ h=>h) (Or.inl ⟨by rfl,?_⟩) ?_ ?_
 rotate_left
 ·intro w'
  go_simp
  with_reducible rfl
 rotate_left
 ·simp only [Act.put,List.setIfInBounds_toArray,List.set_cons_zero,List.set_cons_succ,i64_w,i32_w]
  rfl
 refine pure_ (i:=6) (N:=some 13) (v:=?_) (a':=?_) #[true,true,true,false,true,true,true,false,false,false,false] rfl rfl (any_of HT_.out (by kernel_rfl)) (fun _ _ _ h=>h) (Or.inl ⟨by rfl,?_⟩) ?_ ?_
 rotate_left
 ·intro w'
  go_simp
  with_reducible rfl
 rotate_left
 ·simp only [Act.put,List.setIfInBounds_toArray,List.set_cons_zero,List.set_cons_succ,i64_w,i32_w]
  rfl
 refine take_ (i:=3) (N:=some 10) (v:=?_) (a':=?_) #[true,true,true,true,true,true,true,false,false,false,false] rfl rfl (take_ofW HT_.out HW_.out (by kernel_rfl)) (fun _ _ _ h=>h) (Or.inl ⟨by rfl,?_⟩) hHeld ?_ ?_
 rotate_left
 ·rintro w' ⟨s0,s1⟩
  go_simp
  with_reducible rfl
 rotate_left
 ·simp only [Act.put,List.setIfInBounds_toArray,List.set_cons_zero,List.set_cons_succ,i64_w,i32_w]
  rfl
 refine take_ (i:=7) (N:=some 14) (v:=?_) (a':=?_) #[true,true,true,true,true,true,true,true,false,false,false] rfl rfl (take_ofW HT_.out HW_.out (by kernel_rfl)) (fun _ _ _ h=>h) (Or.inl ⟨by rfl,?_⟩) hHeld ?_ ?_
 rotate_left
 ·rintro w' ⟨s0,s1⟩
  go_simp
  with_reducible rfl
 rotate_left
 ·simp only [Act.put,List.setIfInBounds_toArray,List.set_cons_zero,List.set_cons_succ,i64_w,i32_w]
  rfl
 refine pure_ (i:=8) (N:=some 15) (v:=?_) (a':=?_) #[true,true,true,true,true,true,true,true,true,false,false] rfl rfl (any_of HT_.out (by kernel_rfl)) (fun _ _ _ h=>h) (Or.inl ⟨by rfl,?_⟩) ?_ ?_
 rotate_left
 ·intro w'
  go_simp
  with_reducible rfl
 rotate_left
 ·simp only [Act.put,List.setIfInBounds_toArray,List.set_cons_zero,List.set_cons_succ,i64_w,i32_w]
  rfl
 refine one_ (i:=9) (N:=some 3) #[true,true,true,true,true,true,true,true,true,true,false] rfl rfl (one_of HT_.out (by kernel_rfl)) (by decide) (fun K hK=>?_)
 refine value_ (w1:=?_) (v:=?_) (by rfl) rfl ?_ ?_
 rotate_left 2
 ·go_simp
  constructor
  ·rfl
  ·rfl
 refine hK.out _ _ ⟨((RfR.alloc HI.out _).1 |> fun h=>(bC h 0).trans rfl),((RfR.alloc HI.out _).1 |> fun h=>(bC h 1).trans rfl)⟩ (fun hHeld=>?_)
 clear hK K
 refine norm_ (a':=?_) ?_ ?_
 rotate_left
 ·show Act.put _ (some 3) _ = _
  simp only [Act.put,List.setIfInBounds_toArray,List.set_cons_zero,List.set_cons_succ,i64_w,i32_w]
  rfl
 refine one_ (i:=10) (N:=none) #[true,true,true,true,true,true,true,true,true,true,true] rfl rfl (one_of HT_.out (by kernel_rfl)) (by decide) (fun K hK=>?_)
 refine skip_ (w1:=?_) (by rfl) rfl ?_ ?_
 rotate_left
 ·go_simp
  rfl
 refine hK.out _ _ ⟨((RfR.alloc HI.out _).1 |> fun h=>(bC h 0).trans rfl),((RfR.alloc HI.out _).1 |> fun h=>(bC h 1).trans rfl)⟩ (fun hHeld=>?_)
 clear hK K
 refine done_ (done_of HT_.out (by kernel_rfl)) ?_
 have x0_:=As.mk (show RfR w0 (w.alloc (Obj.cells #[.string (strOfNums bs),.int .i64 e] 136)).drew w.heap.size bs e from ⟨blk_new w _,HB.out.size⟩)
 have x1_:=As.mk (show RfR w0 (w.alloc (Obj.cells #[.string (strOfNums bs),.int .i64 e] 136)).drew g bs e from RfR.drew (RfR.alloc HI.out _))
 have x2_:=As.mk (show Below w0.heap.size w0 (w.alloc (Obj.cells #[.string (strOfNums bs),.int .i64 e] 136)).drew from bD (HB.out.alloc HB.out.size _))
 have x3_:=As.mk (show KeepBut w (w.alloc (Obj.cells #[.string (strOfNums bs),.int .i64 e] 136)).drew g none from keep_drew (keep_alloc (KeepBut.refl w g none) _))
 have x4_:=As.mk (show g ≠ w.heap.size from fun h=>by have:=HI.out.lt;have e_ : w.drew.heap.size = w.heap.size:=rfl;omega)
 have x5_:=As.mk (show w.heap.size ≤ w.heap.size from Nat.le_refl _)
 have x6_:=As.mk HI.out.lt
 clear HI HB HK hcz_0 hcz_1 hfz_0 hfz_1
 generalize (w.alloc (Obj.cells #[.string (strOfNums bs),.int .i64 e] 136)).drew = wx at x0_ x1_ x2_ x3_ ⊢
 generalize hgx : w.heap.size = gx at x0_ x4_ ⊢
 rw [hgx] at x5_
 have HGX:=As.mk hgx
 clear hgx
 have HX:=x0_
 have HI:=x1_
 have HB:=x2_
 have HK:=x3_
 have HNE:=x4_
 have HGE:=x5_
 have HGL:=x6_
 clear x0_ x1_ x2_ x3_ x4_ x5_ x6_
 have HGX':=As.mk (show w.heap.size ≤ gx by have:=HGX.out;omega)
 have hsz:=strOf_size bs1
 have hnb:=HNE.out
 have hnc:=HNE.out.symm
 by_cases c1 : e1 = 0
 ·have c1a : (e1 == 0) = true:=beq_iff_eq.mpr c1
  have c1b : (e1 != 0) = false:=bne_eq_false_iff_eq.mpr c1
  have E0 : e = 0:=by
   by_cases h : e = 0
   ·exact h
   ·exact absurd c1 (F6.out h)
  by_cases c2 : n > 1000000 ∨ n > (bs1.length : Int)
  ·have QT:=As.mk (textsR_short hq.out c1 c2)
   have c3 : decide ((0 : Int) < n) = true:=decide_eq_true (by omega)
   clear E0 c1b
   by_cases c4 : n > 1000000
   ·have c4a : decide ((1000000 : Int) < n) = true:=decide_eq_true c4
    go_wp2_with (first | (go_at_call 100;(with_reducible refine (num_refs gx bs e HBO.out w0 _ ?sideI ?sideB).mono ?_);(case sideI=>exact HX.out);(case sideB=>exact HB.out);rintro er w1 ⟨rfl,hX1,hB1,hK1⟩;rw [hq.out] at hX1;simp only [] at hX1;rw [hq.out];simp only [];have n0_:=As.mk hX1;have n1_:=As.mk hB1;have n2_:=As.mk (show KeepBut w w1 g none from keep_other HK.out hK1 HGX.out);have n3_:=As.mk (HI.out.keep hK1 HNE.out);clear HX HI HB HK hX1 hB1 hK1;have HX:=n0_;have HB:=n1_;have HK:=n2_;have HI:=n3_;clear n0_ n1_ n2_ n3_;have hczx_0 : w1.cell? ⟨gx,0,none⟩ = some (.string (strOfNums bs1)):=(bC HX.out.1 0).trans rfl;have hczx_1 : w1.cell? ⟨gx,1,none⟩ = some (.int .i64 e1):=(bC HX.out.1 1).trans rfl;have hfzx_0:=bF HX.out.1 0;have hfzx_1:=bF HX.out.1 1;have hczb_0 : w1.cell? ⟨g,0,none⟩ = some (.string (strOfNums bs)):=(bC HI.out.1 0).trans rfl;have hczb_1 : w1.cell? ⟨g,1,none⟩ = some (.int .i64 e):=(bC HI.out.1 1).trans rfl;have hfzb_0:=bF HI.out.1 0;have hfzb_1:=bF HI.out.1 1))
    go_loopg [5,6] 0 (fun kq v5 v6 w'=>v5 = .slice none 0 0 ∧ v6 = .int .i64 0 ∧ ∃ m,w' = (w1.setCell ⟨gx,1,none⟩ (.int .i64 10)).drewN m)
    case atStart=>exact ⟨rfl,rfl,0,rfl⟩
    case round =>
     obtain ⟨rfl,rfl,m1,rfl⟩:=hrel
     go_wp2_with (fail)
     go_ret
     rw [QT.out]
     exact ⟨_,rfl,Kd.R_nil _ _ _ _ _,RfR.err (RfR.drewN (RfR.far HI.out HNE.out _) m1) _,(by repeat (first | (with_reducible first | exact HB.out | apply bA | apply bN | apply bD | refine bT ?_ HI.out.ge | refine bT ?_ HX.out.ge) | exact HB.out)),(by repeat (first | (with_reducible first | exact HK.out | apply KeepBut.set_ | apply keep_drewN | apply keep_drew | apply keep_alloc | refine keep_far ?_ HGX'.out _) | exact HK.out))⟩
   ·have c4a : decide ((1000000 : Int) < n) = false:=decide_eq_false c4
    have c5a : decide ((bs1.length : Int) < n) = true:=decide_eq_true (by omega)
    go_wp2_with (first | (go_at_call 100;(with_reducible refine (num_refs gx bs e HBO.out w0 _ ?sideI ?sideB).mono ?_);(case sideI=>exact HX.out);(case sideB=>exact HB.out);rintro er w1 ⟨rfl,hX1,hB1,hK1⟩;rw [hq.out] at hX1;simp only [] at hX1;rw [hq.out];simp only [];have n0_:=As.mk hX1;have n1_:=As.mk hB1;have n2_:=As.mk (show KeepBut w w1 g none from keep_other HK.out hK1 HGX.out);have n3_:=As.mk (HI.out.keep hK1 HNE.out);clear HX HI HB HK hX1 hB1 hK1;have HX:=n0_;have HB:=n1_;have HK:=n2_;have HI:=n3_;clear n0_ n1_ n2_ n3_;have hczx_0 : w1.cell? ⟨gx,0,none⟩ = some (.string (strOfNums bs1)):=(bC HX.out.1 0).trans rfl;have hczx_1 : w1.cell? ⟨gx,1,none⟩ = some (.int .i64 e1):=(bC HX.out.1 1).trans rfl;have hfzx_0:=bF HX.out.1 0;have hfzx_1:=bF HX.out.1 1;have hczb_0 : w1.cell? ⟨g,0,none⟩ = some (.string (strOfNums bs)):=(bC HI.out.1 0).trans rfl;have hczb_1 : w1.cell? ⟨g,1,none⟩ = some (.int .i64 e):=(bC HI.out.1 1).trans rfl;have hfzb_0:=bF HI.out.1 0;have hfzb_1:=bF HI.out.1 1))
    go_loopg [5,6] 0 (fun kq v5 v6 w'=>v5 = .slice none 0 0 ∧ v6 = .int .i64 0 ∧ ∃ m,w' = (w1.setCell ⟨gx,1,none⟩ (.int .i64 10)).drewN m)
    case atStart=>exact ⟨rfl,rfl,0,rfl⟩
    case round =>
     obtain ⟨rfl,rfl,m1,rfl⟩:=hrel
     go_wp2_with (fail)
     go_ret
     rw [QT.out]
     exact ⟨_,rfl,Kd.R_nil _ _ _ _ _,RfR.err (RfR.drewN (RfR.far HI.out HNE.out _) m1) _,(by repeat (first | (with_reducible first | exact HB.out | apply bA | apply bN | apply bD | refine bT ?_ HI.out.ge | refine bT ?_ HX.out.ge) | exact HB.out)),(by repeat (first | (with_reducible first | exact HK.out | apply KeepBut.set_ | apply keep_drewN | apply keep_drew | apply keep_alloc | refine keep_far ?_ HGX'.out _) | exact HK.out))⟩
  ·have c2n : n ≤ 1000000:=by omega
   have c2m : n ≤ (bs1.length : Int):=by omega
   have c4a : decide ((1000000 : Int) < n) = false:=decide_eq_false (by omega)
   have c5a : decide ((bs1.length : Int) < n) = false:=decide_eq_false (by omega)
   have C2:=As.mk c2
   have EE0:=As.mk E0
   clear c2 E0
   go_wp2_with (first | (go_at_call 100;(with_reducible refine (num_refs gx bs e HBO.out w0 _ ?sideI ?sideB).mono ?_);(case sideI=>exact HX.out);(case sideB=>exact HB.out);rintro er w1 ⟨rfl,hX1,hB1,hK1⟩;rw [hq.out] at hX1;simp only [] at hX1;rw [hq.out];simp only [];have n0_:=As.mk hX1;have n1_:=As.mk hB1;have n2_:=As.mk (show KeepBut w w1 g none from keep_other HK.out hK1 HGX.out);have n3_:=As.mk (HI.out.keep hK1 HNE.out);clear HX HI HB HK hX1 hB1 hK1;have HX:=n0_;have HB:=n1_;have HK:=n2_;have HI:=n3_;clear n0_ n1_ n2_ n3_;have hczx_0 : w1.cell? ⟨gx,0,none⟩ = some (.string (strOfNums bs1)):=(bC HX.out.1 0).trans rfl;have hczx_1 : w1.cell? ⟨gx,1,none⟩ = some (.int .i64 e1):=(bC HX.out.1 1).trans rfl;have hfzx_0:=bF HX.out.1 0;have hfzx_1:=bF HX.out.1 1;have hczb_0 : w1.cell? ⟨g,0,none⟩ = some (.string (strOfNums bs)):=(bC HI.out.1 0).trans rfl;have hczb_1 : w1.cell? ⟨g,1,none⟩ = some (.int .i64 e):=(bC HI.out.1 1).trans rfl;have hfzb_0:=bF HI.out.1 0;have hfzb_1:=bF HI.out.1 1))
   clear hczx_0 hczx_1 hfzx_0 hfzx_1 hczb_0 hczb_1 hfzb_0 hfzb_1
   subst c1
   go_loopg [5,6] n.toNat (fun kq v5 v6 w'=>∃ (x : Int) (l : List ByteArray) (bx : List Int) (ex : Int),v6 = .int .i64 x ∧ 0 ≤ x ∧ x ≤ n ∧ As ((kq : Int) + x = n) ∧ As (RfR w0 w' gx bx ex) ∧ As (RfR w0 w' g bs e) ∧ As (Below w0.heap.size w0 w') ∧ As (KeepBut w w' g none) ∧ As (Kd.R Kd.string 9 w' w0.heap.size (fun k=>gx < k)  v5 l) ∧ As (BytesOk bx) ∧ As ((l.length : Int) ≤ x) ∧ As (TXL n.toNat bs1 (n - x).toNat l bx ex))
   case atStart=>exact ⟨0,[],bs1,0,rfl,by omega,by omega,⟨by omega⟩,HX,HI,HB,HK,⟨Kd.R_nil _ _ _ _ _⟩,HB1,⟨by simp⟩,⟨by rw [Int.sub_zero];exact TXL.first _ _⟩⟩
   case round =>
    clear HX HI HB HK
    obtain ⟨x,l,bx,ex,rfl,p0,p1,HKQ,HX,HI,HB,HK,HO,HBX,HLX0,HTX⟩:=hrel
    have hczx_0 : wr.cell? ⟨gx,0,none⟩ = some (.string (strOfNums bx)):=(bC HX.out.1 0).trans rfl
    have hczx_1 : wr.cell? ⟨gx,1,none⟩ = some (.int .i64 ex):=(bC HX.out.1 1).trans rfl
    have hfzx_0:=bF HX.out.1 0
    have hfzx_1:=bF HX.out.1 1
    have hczb_0 : wr.cell? ⟨g,0,none⟩ = some (.string (strOfNums bs)):=(bC HI.out.1 0).trans rfl
    have hczb_1 : wr.cell? ⟨g,1,none⟩ = some (.int .i64 e):=(bC HI.out.1 1).trans rfl
    have hfzb_0:=bF HI.out.1 0
    have hfzb_1:=bF HI.out.1 1
    by_cases hlt : x < n
    ·have c6 : decide (x < n) = true:=decide_eq_true hlt
     by_cases c7 : ex = 0
     ·subst c7
      have HLX:=As.mk (show (l.length + 1) * 16 ≤ 140737488355328 by have:=HLX0.out;omega)
      go_wp2_with (first | (go_at_call 136;(with_reducible refine (text_refs gx bx 0 HBX.out w0 _ ?sideI ?sideB).mono ?_);(case sideI=>exact HX.out);(case sideB=>exact HB.out);rintro er w2 ⟨rfl,hX1,hB1,hK1⟩;have n4_:=As.mk (Kd.R_keep HO.out hK1 (fun k hk=>by omega));have n0_:=As.mk hX1;have n1_:=As.mk hB1;have n2_:=As.mk (show KeepBut w w2 g none from keep_other HK.out hK1 HGX.out);have n3_:=As.mk (HI.out.keep hK1 HNE.out);clear HX HI HB HK HO hX1 hB1 hK1;have HX:=n0_;have HB:=n1_;have HK:=n2_;have HI:=n3_;have HO:=n4_;clear n0_ n1_ n2_ n3_ n4_) | ((with_reducible refine gB (b:=.append) (xs:=#[.tmp 42,.tmp 44]) rfl ?_);at_builtin;refine Kd.R_append Kd.string (w0:=w0) w0.heap.size rfl (.tmp 42) (.tmp 44) 32 9 (.string ⟨#[]⟩) 16 rfl Tryz.underlying32 infoS_ rfl (by decide) (by omega) u5 l (textR bx 0).1 [.string (textR bx 0).1] (fun k=>gx < k) (fun _=>False) rfl rfl ?aP (fun _ hk=>hk.elim) ?aF ?aO ?aB ?aS ?aL ?_;(case aP=>exact rfl);(case aF=>exact (fun k hk=>Nat.lt_of_lt_of_le HX.out.lt hk));(case aO=>exact HO.out);(case aB=>exact HB.out);(case aS=>exact HB.out.size);(case aL=>have:=HLX.out;omega);intro v9 w9 ho hb_ hg_ hat_;have n0_:=As.mk (RfR.grown HX.out hg_ HO.out.1);have n1_:=As.mk hb_;have n2_:=As.mk (keep_append HK.out hg_ (fun k hk=>by have:=HO.out.1 k hk;have:=HGX.out;omega));have n3_:=As.mk ho;have n4_:=As.mk (RfR.grown HI.out hg_ (fun k hk=>by have:=HO.out.1 k hk;have:=HGX.out;have:=HGL.out;omega));clear HX HI HB HK HO ho hb_ hg_ hat_;have HX:=n0_;have HB:=n1_;have HK:=n2_;have HO:=n3_;have HI:=n4_;clear n0_ n1_ n2_ n3_ n4_))
      go_roundg (gk - 1)
      case measure=>have:=HKQ.out;omega
      case rel=>exact ⟨x + 1,l ++ [(textR bx 0).1],(textR bx 0).2.1,(textR bx 0).2.2,rfl,by omega,by omega,⟨by have:=HKQ.out;omega⟩,HX,HI,HB,HK,HO,⟨(textR_ok HBX.out).1⟩,⟨by rw [List.length_append];have:=HLX0.out;simp;omega⟩,⟨by have:=HTX.out;rw [show (n - x).toNat = (n - (x + 1)).toNat + 1 by omega] at this;exact this.next⟩⟩
     ·have c7a : (ex == 0) = false:=beq_eq_false_iff_ne.mpr c7
      have c7b : (ex != 0) = true:=bne_iff_ne.mpr c7
      have QF:=HTX.out.fell c7
      have QT:=As.mk (textsR_fell hq.out rfl C2.out (by rw [QF];exact c7))
      have QG:=As.mk QF
      clear QF
      go_wp2_with (fail)
      go_ret
      rw [QT.out,QG.out]
      exact ⟨_,rfl,Kd.R_nil _ _ _ _ _,RfR.err HI.out _,(by repeat (first | (with_reducible first | exact HB.out | apply bA | apply bN | apply bD | refine bT ?_ HI.out.ge | refine bT ?_ HX.out.ge) | exact HB.out)),(by repeat (first | (with_reducible first | exact HK.out | apply KeepBut.set_ | apply keep_drewN | apply keep_drew | apply keep_alloc | refine keep_far ?_ HGX'.out _) | exact HK.out))⟩
    ·have c6 : decide (x < n) = false:=decide_eq_false hlt
     by_cases c7 : ex = 0
     ·subst c7
      have QF:=HTX.out
      rw [show (n - x).toNat = 0 by omega] at QF
      have QF:=QF.last
      have QT:=As.mk (textsR_good hq.out rfl C2.out (by rw [QF]))
      have QG:=As.mk QF
      clear QF
      go_wp2_with (fail)
      go_ret
      rw [QT.out,QG.out]
      exact ⟨_,rfl,Kd.R_mono (Kd.R_far HO.out (fun k hk=>by have:=HGX.out;have:=HGL.out;show k ≠ g;omega) _) (fun k hk=>by have:=HGX.out;omega),by rw [← EE0.out];exact RfR.row HI.out _,(by repeat (first | (with_reducible first | exact HB.out | apply bA | apply bN | apply bD | refine bT ?_ HI.out.ge | refine bT ?_ HX.out.ge) | exact HB.out)),(by repeat (first | (with_reducible first | exact HK.out | apply KeepBut.set_ | apply keep_drewN | apply keep_drew | apply keep_alloc | refine keep_far ?_ HGX'.out _) | exact HK.out))⟩
     ·have c7a : (ex == 0) = false:=beq_eq_false_iff_ne.mpr c7
      have c7b : (ex != 0) = true:=bne_iff_ne.mpr c7
      have QF:=HTX.out.fell c7
      have QT:=As.mk (textsR_fell hq.out rfl C2.out (by rw [QF];exact c7))
      have QG:=As.mk QF
      clear QF
      go_wp2_with (fail)
      go_ret
      rw [QT.out,QG.out]
      exact ⟨_,rfl,Kd.R_nil _ _ _ _ _,RfR.err HI.out _,(by repeat (first | (with_reducible first | exact HB.out | apply bA | apply bN | apply bD | refine bT ?_ HI.out.ge | refine bT ?_ HX.out.ge) | exact HB.out)),(by repeat (first | (with_reducible first | exact HK.out | apply KeepBut.set_ | apply keep_drewN | apply keep_drew | apply keep_alloc | refine keep_far ?_ HGX'.out _) | exact HK.out))⟩
 ·have c1a : (e1 == 0) = false:=beq_eq_false_iff_ne.mpr c1
  have c1b : (e1 != 0) = true:=bne_iff_ne.mpr c1
  have QT:=As.mk (textsR_err hq.out c1)
  have hn0:=f7 c1
  have c3 : decide ((0 : Int) < n) = false:=decide_eq_false (by omega)
  go_wp2_with (first | (go_at_call 100;(with_reducible refine (num_refs gx bs e HBO.out w0 _ ?sideI ?sideB).mono ?_);(case sideI=>exact HX.out);(case sideB=>exact HB.out);rintro er w1 ⟨rfl,hX1,hB1,hK1⟩;rw [hq.out] at hX1;simp only [] at hX1;rw [hq.out];simp only [];have n0_:=As.mk hX1;have n1_:=As.mk hB1;have n2_:=As.mk (show KeepBut w w1 g none from keep_other HK.out hK1 HGX.out);have n3_:=As.mk (HI.out.keep hK1 HNE.out);clear HX HI HB HK hX1 hB1 hK1;have HX:=n0_;have HB:=n1_;have HK:=n2_;have HI:=n3_;clear n0_ n1_ n2_ n3_;have hczx_0 : w1.cell? ⟨gx,0,none⟩ = some (.string (strOfNums bs1)):=(bC HX.out.1 0).trans rfl;have hczx_1 : w1.cell? ⟨gx,1,none⟩ = some (.int .i64 e1):=(bC HX.out.1 1).trans rfl;have hfzx_0:=bF HX.out.1 0;have hfzx_1:=bF HX.out.1 1;have hczb_0 : w1.cell? ⟨g,0,none⟩ = some (.string (strOfNums bs)):=(bC HI.out.1 0).trans rfl;have hczb_1 : w1.cell? ⟨g,1,none⟩ = some (.int .i64 e):=(bC HI.out.1 1).trans rfl;have hfzb_0:=bF HI.out.1 0;have hfzb_1:=bF HI.out.1 1))
  go_loopg [5,6] 0 (fun kq v5 v6 w'=>v5 = .slice none 0 0 ∧ v6 = .int .i64 0 ∧ ∃ m,w' = (w1).drewN m)
  case atStart=>exact ⟨rfl,rfl,0,rfl⟩
  case round =>
   obtain ⟨rfl,rfl,m1,rfl⟩:=hrel
   go_wp2_with (fail)
   go_ret
   rw [QT.out]
   exact ⟨_,rfl,Kd.R_nil _ _ _ _ _,RfR.err (RfR.drewN HI.out m1) _,(by repeat (first | (with_reducible first | exact HB.out | apply bA | apply bN | apply bD | refine bT ?_ HI.out.ge | refine bT ?_ HX.out.ge) | exact HB.out)),(by repeat (first | (with_reducible first | exact HK.out | apply KeepBut.set_ | apply keep_drewN | apply keep_drew | apply keep_alloc | refine keep_far ?_ HGX'.out _) | exact HK.out))⟩
end Go.Proofs.YtmlebgikdegjjaaGreatDoor.Hd
