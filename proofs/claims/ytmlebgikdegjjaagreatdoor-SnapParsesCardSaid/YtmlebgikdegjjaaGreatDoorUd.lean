/- Is: has a snapshot just these? -/
import Derived.Test.YtmlebgikdegjjaaGreatDoorUn
import Derived.Test.YtmlebgikdegjjaaGreatDoorRr
import Derived.Test.YtmlebgikdegjjaaGreatDoorPAllx8
set_option maxHeartbeats 16000000
set_option maxRecDepth 100000
namespace Go.Proofs.YtmlebgikdegjjaaGreatDoor.Hd
open Go.Maps Go.RowKit Go.Proofs.YtmlebgikdegjjaaGreatDoor.Rq Go.Proofs.YtmlebgikdegjjaaGreatDoor.Rr Go.Proofs.YtmlebgikdegjjaaGreatDoorW.PrintWords Go.Proofs.YtmlebgikdegjjaaGreatDoorW.PrintLast Go.Proofs.YtmlebgikdegjjaaGreatDoorW.PrintMore Go.Proofs.YtmlebgikdegjjaaGreatDoor.PAll
attribute [local go_sem] max2_int min2_int max_two min_two max_three min_three max_four min_four
set_option linter.unusedVariables false
set_option linter.unusedSimpArgs false
def snapis.T1 : Bool × List (List Nat × List Nat):=(true,[([],[]),([0],[0]),([],[]),([2],[2]),([1,3],[1,3])])
def snapis.B1 : List Nat:=[0,1,0,4,15]
theorem snapis.tab1 : rtab .any (opsOf Tryz.f21 1) = snapis.T1:=by kernel_rfl
theorem snapis.bits1 : waitsOk snapis.T1.2 snapis.B1 = true:=by kernel_rfl
def snapis.T6 : Bool × List (List Nat × List Nat):=(true,[([],[]),([],[]),([1],[1]),([0,2],[0,2]),([3],[3]),([4],[4]),([4],[4]),([4],[4]),([6,7,4],[4,6,7]),([8,4],[4,8]),([5,9,4,4],[4,5,9]),([10,4],[4,10]),([4,11],[4,11])])
def snapis.B6 : List Nat:=[0,0,2,7,15,31,31,31,223,479,1023,2047,4095]
theorem snapis.tab6 : rtab .any (opsOf Tryz.f21 6) = snapis.T6:=by kernel_rfl
theorem snapis.bits6 : waitsOk snapis.T6.2 snapis.B6 = true:=by kernel_rfl
attribute [local go_sem] Oper.semAt_some
def alike (sm : S34 → S34 → Bool) : List S34 → List S34 → Bool
 | [],[]=>true
 | x :: l,y :: m=>sm x y && alike sm l m
 | _,_=>false
theorem alike_len (sm : S34 → S34 → Bool) : ∀ (l m : List S34),l.length ≠ m.length → alike sm l m = false
 | [],[],h=>absurd rfl h
 | [],_ :: _,_=>rfl
 | _ :: _,[],_=>rfl
 | x :: l,y :: m,h=>by
  unfold alike
  rw [alike_len sm l m (fun e=>h (by rw [List.length_cons,List.length_cons,e])),Bool.and_false]
theorem CK_cells {w w' : World} {A : Option Addr} {n : Nat} {l : List S34} (h : Kd.C k34 w A n l) (hk : CellsKept w w') : Kd.C k34 w' A n l :=
 ⟨h.1,h.2.1,fun hn=>by
  obtain ⟨ad,e,hc⟩:=h.2.2 hn
  refine ⟨ad,e,fun j p hj=>?_⟩
  obtain ⟨c,hs,hr,hcell⟩:=hc j p hj
  obtain ⟨A3,c3,rfl,l3,g3⟩:=k34_open hr
  exact ⟨_,hs,k34_mk w' p l3 (C_cells g3 hk),fun i u hu=>hk _ _ (hcell i u hu)⟩⟩
theorem kept_own {w w' : World} {row : Option Nat} (hg : w.grownBy w' row) (hr : ∀ r,row = some r → ∃ o : Obj,w.heap[r]? = some o ∧ o.isCells = false) : CellsKept w w':=fun a u hc=>hg.cell hc (fun e=>by
 obtain ⟨o,ho,hn⟩:=hr _ e.symm
 unfold World.cell? at hc
 rw [ho] at hc
 cases o <;> first | cases hc | cases hn)
def noP (Q : Exit → Act → World → Prop) : Exit → Act → World → Prop
 | .panic _,_,_=>False
 | .normal,a,w=>Q .normal a w
 | .ret,a,w=>Q .ret a w
 | .exit i,a,w=>Q (.exit i) a w
 | .goto t,a,w=>Q (.goto t) a w
 | .outgrown,a,w=>Q .outgrown a w
theorem noP_le {Q : Exit → Act → World → Prop} : ∀ (e : Exit) (a : Act) (w : World),noP Q e a w → Q e a w
 | .panic _,_,_,h=>h.elim
 | .normal,_,_,h=>h
 | .ret,_,_,h=>h
 | .exit _,_,_,h=>h
 | .goto _,_,_,h=>h
 | .outgrown,_,_,h=>h
theorem alike_take (sm : S34 → S34 → Bool) : ∀ (n : Nat) (l m : List S34),alike sm l m = true → alike sm (l.take n) (m.take n) = true
 | 0,l,m,_=>by rw [List.take_zero,List.take_zero];rfl
 | n + 1,[],[],_=>rfl
 | n + 1,[],_ :: _,h=>by cases h
 | n + 1,_ :: _,[],h=>by cases h
 | n + 1,x :: l,y :: m,h=>by
  obtain ⟨h1,h2⟩:=Bool.and_eq_true_iff.1 (show (sm x y && alike sm l m) = true from h)
  show (sm x y && alike sm (l.take n) (m.take n)) = true
  rw [h1,alike_take sm n l m h2]
  rfl
theorem cell_lt {w : World} {a : Addr} {v : Value} (h : w.cell? a = some v) : a.block < w.heap.size:=by
 unfold World.cell? at h
 cases ho : w.heap[a.block]? with
 | none=>rw [ho] at h;cases h
 | some o=>exact (Array.getElem?_eq_some_iff.1 ho).1
theorem KpR.set {XM : Nat → Prop} {W : World} {g : Addr} {u : Value} (v : Value) (hc : W.cell? g = some u) (hu : keepV u = false) : KpR XM W (W.setCell g v):=by
 refine ⟨by simp,fun a t ha ht=>?_,fun k es c hk _=>?_⟩
 ·rw [World.cell?_setCell_other _ _ _ _ (fun e=>?_)]
  ·exact ha
  ·subst e
   rw [ha] at hc
   cases hc
   rw [ht] at hu
   cases hu
 ·rw [Below.heap_setCell _ _ _ _ (fun e=>?_)]
  ·exact hk
  ·subst e
   unfold World.cell? at hc
   rw [hk] at hc
   cases hc
theorem alike_snoc (sm : S34 → S34 → Bool) : ∀ (xs l : List S34) (x y : S34),l[xs.length]? = some y → alike sm xs (l.take xs.length) = true → alike sm (xs ++ [x]) (l.take (xs.length + 1)) = sm x y
 | [],[],_,_,h,_=>by cases h
 | [],z :: l,x,y,h,_=>by
  have e_ : z = y:=Option.some.inj h
  show (sm x z && alike sm [] (l.take 0)) = _
  rw [List.take_zero,e_]
  exact Bool.and_true _
 | a :: xs,[],_,_,h,_=>by cases h
 | a :: xs,z :: l,x,y,h,hh=>by
  obtain ⟨h1,h2⟩:=Bool.and_eq_true_iff.1 (show (sm a z && alike sm xs (l.take xs.length)) = true from hh)
  show (sm a z && alike sm (xs ++ [x]) (l.take (xs.length + 1))) = _
  rw [h1,Bool.true_and]
  exact alike_snoc sm xs l x y h h2
theorem next_len {α : Type} (pre : List α) (x : α) : ((pre.length : Int) + 1) = (((pre ++ [x]).length : Nat) : Int):=by
 rw [List.length_append,List.length_singleton]
 omega
theorem is_next {w w5 : World} {g3 g4 g5 c0 : Nat} {A0 : Option Addr} {l : List S34} {m : Int} (j : Int) (n : Nat) (hj : j = (n : Int)) (h1 : w5.cell? ⟨g5,0,none⟩ = some (.int .i64 m)) (f1 : w5.frozen? ⟨g5,0,none⟩ = false) (h3 : w5.cell? ⟨g3,0,none⟩ = some (.slice A0 l.length c0)) (h4 : w5.cell? ⟨g4,0,none⟩ = some (.bool false)) (f4 : w5.frozen? ⟨g4,0,none⟩ = false)
  (hne : g3 ≠ g5 ∧ g4 ≠ g5) (hr0 : Kd.C k34 w A0 l.length l) (hb8 : Below w.heap.size w w5) (hge : w.heap.size ≤ g5) :
  (w5.setCell ⟨g5,0,none⟩ (.int .i64 j)).cell? ⟨g5,0,none⟩ = some (.int .i64 (n : Int)) ∧ (w5.setCell ⟨g5,0,none⟩ (.int .i64 j)).frozen? ⟨g5,0,none⟩ = false ∧ (w5.setCell ⟨g5,0,none⟩ (.int .i64 j)).cell? ⟨g3,0,none⟩ = some (.slice A0 l.length c0) ∧ (w5.setCell ⟨g5,0,none⟩ (.int .i64 j)).cell? ⟨g4,0,none⟩ = some (.bool false) ∧ (w5.setCell ⟨g5,0,none⟩ (.int .i64 j)).frozen? ⟨g4,0,none⟩ = false ∧ Kd.C k34 (w5.setCell ⟨g5,0,none⟩ (.int .i64 j)) A0 l.length l ∧ Below w.heap.size w (w5.setCell ⟨g5,0,none⟩ (.int .i64 j)):=by
 subst hj
 refine ⟨World.cell?_setCell_same' _ _ _ (by rw [h1];rfl),?_,?_,?_,?_,Kd.C_below hr0 (bT hb8 hge),bT hb8 hge⟩
 ·rw [World.frozen?_setCell];exact f1
 ·rw [World.cell?_setCell_other _ _ _ _ (fun e=>hne.1 (by cases e;rfl))]
  exact h3
 ·rw [World.cell?_setCell_other _ _ _ _ (fun e=>hne.2 (by cases e;rfl))]
  exact h4
 ·rw [World.frozen?_setCell];exact f4
theorem is_calls (sm : S34 → S34 → Bool) (k : Nat) (w : World) (p : Option Addr) (M : DataW S34) (A0 : Option Addr) (c0 : Nat) (l : List S34) (h : Sn w (.pointer p) M) (hz : Maps.size M ≤ 1000) (hr0 : Kd.C k34 w A0 l.length l) (hc0 : l.length ≤ c0) (hl : l.length ≤ 1000) (hvv : ∀ d ∈ valsM M,d.f3.length ≤ 1000000) (hsm : ∀ x ∈ valsM M,∀ y ∈ l,r07_Same.f k x.f0 x.f1 x.f2 x.f3 x.f4 x.f5 y.f0 y.f1 y.f2 y.f3 y.f4 y.f5 = some (sm x y)) :
  Calls Tryz.prog 21 #[.pointer p,.slice A0 l.length c0] w fun e w'=>e = .returned (.bool (alike sm (valsM M) l)) ∧ Below w.heap.size w w':=by
 have hvk : (valsM M).length = Maps.size M:=by
  rcases h with ⟨_,rfl⟩ | ⟨_,_,_,_,hm⟩
  ·rfl
  ·rw [vals_len hm,keys_len hm]
 refine (callsIn_wide (n:=9)).1 ?_
 refine callsIn_of_wp_marks Tryz.func21 rfl trivial ?_ rfl
 simp only [Tryz.ntmps21,List.size_toArray,List.length_cons,List.length_nil,Nat.reduceAdd,Nat.reduceSub,Array.replicate_succ,Array.replicate_zero,List.push_toArray,List.append_toArray,List.nil_append,List.cons_append]
 refine wpIn_mono ?_ noP_le
 refine wpIn_wide.2 ?_
 have HVK:=As.mk hvk
 have HVV:=As.mk hvv
 have HSM:=As.mk hsm
 clear hvk hvv hsm
 go_upto_region 1 with (fail)
 have bk3:=kA (blk_new w (Obj.cells #[.slice A0 l.length c0] 22)) (Obj.cells #[.bool false] 4)
 have bk4:=blk_new (w.alloc (Obj.cells #[.slice A0 l.length c0] 22)) (Obj.cells #[.bool false] 4)
 have hb_:=bA (bA (Below.refl w.heap.size w) (Obj.cells #[.slice A0 l.length c0] 22)) (Obj.cells #[.bool false] 4)
 have hsz_ : (w.alloc (Obj.cells #[.slice A0 l.length c0] 22)).heap.size = w.heap.size + 1:=by show (w.heap.push _).size = _;simp
 rw [hsz_] at bk4
 generalize (w.alloc (Obj.cells #[.slice A0 l.length c0] 22)).alloc (Obj.cells #[.bool false] 4) = W1 at bk3 bk4 hb_ ⊢
 clear hsz_
 obtain ⟨g4,hg4⟩ : ∃ g4,g4 = w.heap.size + 1:=⟨_,rfl⟩
 rw [← hg4] at bk4 ⊢
 obtain ⟨g3,hg3⟩ : ∃ g3,g3 = w.heap.size:=⟨_,rfl⟩
 rw [← hg3] at bk3 ⊢
 have HG3:=As.mk hg3
 have HG4:=As.mk hg4
 have HBW:=As.mk hb_
 have HSD:=As.mk (show Sn W1.drew (.pointer p) M from ((h.below hb_).below (bD (Below.refl _ W1))))
 have q3 : W1.drew.cell? ⟨g3,0,none⟩ = some (.slice A0 l.length c0):=(bC bk3 0).trans rfl
 clear hg3 hg4 hb_
 refine start_ (n:=5) (S:=fun w'=>w'.cell? ⟨g3,0,none⟩ = some (.slice A0 l.length c0)) (ds:=[]) #[false,false,false,false,false] (by kernel_rfl) rfl rfl q3 (fun hHeld=>?_);refine with_tabW snapis.tab1 snapis.bits1 (fun HT_ HW_=>?_)
 refine pure_ (i:=0) (N:=some 7) (v:=?_) (a':=?_) #[true,false,false,false,false] rfl rfl (any_of HT_.out (by kernel_rfl)) (fun _ _ _ h=>h) (Or.inl ⟨by rfl,?_⟩) ?_ ?_
 rotate_left
 ·intro w'
  go_simp
  with_reducible rfl
 rotate_left
 ·simp only [Act.put,List.setIfInBounds_toArray,List.set_cons_zero,List.set_cons_succ,i64_w,i32_w]
  rfl
 refine take_ (i:=2) (N:=some 9) (v:=?_) (a':=?_) #[true,false,true,false,false] rfl rfl (take_ofW HT_.out HW_.out (by kernel_rfl)) (fun _ _ _ h=>h) (Or.inl ⟨by rfl,?_⟩) hHeld ?_ ?_
 rotate_left
 ·rintro w' s0
  go_simp
  with_reducible rfl
 rotate_left
 ·simp only [Act.put,List.setIfInBounds_toArray,List.set_cons_zero,List.set_cons_succ,i64_w,i32_w]
  rfl
 refine pure_ (i:=3) (N:=some 10) (v:=?_) (a':=?_) #[true,false,true,true,false] rfl rfl (any_of HT_.out (by kernel_rfl)) (fun _ _ _ h=>h) (Or.inl ⟨by rfl,?_⟩) ?_ ?_
 rotate_left
 ·intro w'
  go_simp
  with_reducible rfl
 rotate_left
 ·simp only [Act.put,List.setIfInBounds_toArray,List.set_cons_zero,List.set_cons_succ,i64_w,i32_w]
  rfl
 refine one_ (i:=1) (N:=some 8) #[true,true,true,true,false] rfl rfl (one_of HT_.out (by kernel_rfl)) (by decide) (fun K hK=>?_)
 refine goes_ Tryz.func48 (by kernel_rfl) rfl #[.pointer p] (by rfl) rfl rfl (by (try simp only [List.map_toArray,List.map_cons,List.map_nil]);first | done | rfl | (simp only [List.length_drop,List.length_take];rfl)) ?_
 with_reducible refine (len_calls _ _ M HSD.out).mono ?_
 rintro er w3 ⟨rfl,rfl⟩
 refine ⟨_,rfl,?_⟩
 refine hK.out _ _ q3 (fun hHeld=>?_)
 clear hK K
 refine norm_ (a':=?_) ?_ ?_
 rotate_left
 ·show Act.put _ (some 8) _ = _
  simp only [Act.put,List.setIfInBounds_toArray,List.set_cons_zero,List.set_cons_succ,i64_w,i32_w]
  rfl
 refine pure_ (i:=4) (N:=some 11) (v:=?_) (a':=?_) #[true,true,true,true,true] rfl rfl (any_of HT_.out (by kernel_rfl)) (fun _ _ _ h=>h) (Or.inl ⟨by rfl,?_⟩) ?_ ?_
 rotate_left
 ·intro w'
  go_simp
  with_reducible rfl
 rotate_left
 ·simp only [Act.put,List.setIfInBounds_toArray,List.set_cons_zero,List.set_cons_succ,i64_w,i32_w]
  rfl
 refine done_ (done_of HT_.out (by kernel_rfl)) ?_
 have HB:=As.mk (bD HBW.out)
 have q4 : W1.drew.cell? ⟨g4,0,none⟩ = some (.bool false):=(bC bk4 0).trans rfl
 have f4 : W1.drew.frozen? ⟨g4,0,none⟩ = false:=bF (kD bk4) 0
 have hr1:=Kd.C_below hr0 HB.out
 have hlt3:=blk_lt bk3
 have hlt4:=blk_lt bk4
 have hn34 : g3 ≠ g4:=by have:=HG3.out;have:=HG4.out;omega
 have hs1 : Sn W1.drew (.pointer p) M:=h.below HB.out
 have HR0:=As.mk hr0
 clear HSD h hr0 bk3 bk4
 generalize W1.drew = W2 at *
 by_cases hlen : Maps.size M = l.length
 case neg =>
  have z1 : (((Maps.size M : Nat) : Int) != (l.length : Int)) = true:=bne_iff_ne.mpr (by omega)
  have HR:=As.mk (alike_len sm (valsM M) l (by rw [HVK.out];exact hlen))
  clear hlen
  go_wp2_with (fail)
  have hc : (W2.setCell ⟨g4,0,none⟩ (.bool false)).cell? ⟨g4,0,none⟩ = some (.bool false):=World.cell?_setCell_same' _ _ _ (by rw [q4];rfl)
  refine ⟨.bool false,?_,by rw [HR.out],bT HB.out (by have:=HG4.out;omega)⟩
  simp [results,Tryz.f21,go_sem,hc]
 case pos =>
  have z1 : (((Maps.size M : Nat) : Int) != (l.length : Int)) = false:=bne_eq_false_iff_eq.mpr (by omega)
  go_wp2_with (first | (go_at_call 64;(with_reducible refine (All_calls _ p).mono ?_);rintro e w4 ⟨rfl,hw_⟩;rw [hw_]))
  have HBX:=As.mk (show Below w.heap.size w ((W2.alloc (Obj.cells #[.int .i64 0] 3)).alloc (Obj.cells #[.pointer p] 26)) from bA (bA HB.out _) _)
  refine (wpIn_wide (n:=9)).1 (range_q (n:=9) (by omega) (gf:=105) rfl (enters_of Tryz.func105 (by kernel_rfl) rfl) (encs:=encE) (Kp:=KpR fun _=>False) (Qe:=Qe fun d=>d ∈ valsM M) (S:=fun xs=>xs.map (·.1) = valsM M) (Sp:=fun pre=>pre.map (·.1) <+: valsM M) (N:=(valsM M).length) ?hseq KpR.trans (fun W l o o' _=>KpR.book W l o o') (Below.refl _ _) (fun _=>rfl)
   (fun pre W=>(W.cell? ⟨W2.heap.size,0,none⟩ = some (.int .i64 (pre.length : Int)) ∧ W.frozen? ⟨W2.heap.size,0,none⟩ = false ∧ W.cell? ⟨g3,0,none⟩ = some (.slice A0 l.length c0) ∧ W.cell? ⟨g4,0,none⟩ = some (.bool false) ∧ W.frozen? ⟨g4,0,none⟩ = false ∧ Kd.C k34 W A0 l.length l ∧ alike sm (pre.map (·.1)) (l.take pre.length) = true) ∧ Below w.heap.size w W)
   (fun pre W=>(W.cell? ⟨g4,0,none⟩ = some (.bool false) ∧ pre.length ≤ l.length ∧ alike sm (pre.map (·.1)) (l.take pre.length) = false) ∧ Below w.heap.size w W) ?hI ?hIr ?h0 (fun x a' W=>∃ Bx : Nat,a' = { tmps:=#[.pointer p,.slice A0 l.length c0,undef,.pointer (some ⟨g3,0,none⟩),.pointer (some ⟨g4,0,none⟩),.pointer (some ⟨W2.heap.size,0,none⟩),.pointer (some ⟨Bx,0,none⟩),.pointer p,.int .i64 (l.length : Int),.slice A0 l.length c0,.int .i64 (l.length : Int),.bool false,.pointer p,.func (.func 105) #[] #[.pointer (some ⟨W2.heap.size + 1,0,none⟩)],.agg #[.int .i64 x.1.f0,.string x.1.f1,.string x.1.f2,.slice x.2.1 x.1.f3.length x.2.2,.string x.1.f4,.string x.1.f5],undef,undef,undef,undef,undef,undef,undef,undef,undef,undef,undef,undef,undef,undef,undef,undef,undef,undef,undef],defers:=[] } ∧ Qe (fun d=>d ∈ valsM M) x W ∧ W.cell? ⟨Bx,0,none⟩ = some (.int .i64 x.1.f0) ∧ W.cell? ⟨Bx,1,none⟩ = some (.string x.1.f1) ∧ W.cell? ⟨Bx,2,none⟩ = some (.string x.1.f2) ∧ W.cell? ⟨Bx,3,none⟩ = some (.slice x.2.1 x.1.f3.length x.2.2) ∧ W.cell? ⟨Bx,4,none⟩ = some (.string x.1.f4) ∧ W.cell? ⟨Bx,5,none⟩ = some (.string x.1.f5)) ?hAx ?hassign ?hbody ?hdone ?hstop)
  case hseq =>
   have hs3:=hs1.below (bA (bA (Below.refl _ W2) (Obj.cells #[.int .i64 0] 3)) (Obj.cells #[.pointer p] 26))
   have hcb : ((W2.alloc (Obj.cells #[.int .i64 0] 3)).alloc (Obj.cells #[.pointer p] 26)).cell? ⟨W2.heap.size + 1,0,none⟩ = some (.pointer p):=(bC (by have h_:=blk_new (W2.alloc (Obj.cells #[.int .i64 0] 3)) (Obj.cells #[.pointer p] 26);rwa [World.size_alloc] at h_) 0).trans rfl
   rcases hs3 with ⟨he,rfl⟩ | ⟨g,b,he,hc,hm⟩
   ·injection he with he
    subst he
    exact it_seq_nil _ 8 (by omega) _ (W2.heap.size + 1) _ hcb
   ·injection he with he
    subst he
    exact it_seq _ 8 (by omega) _ (W2.heap.size + 1) g b M hcb hc hm (fun h_=>h_) hz HVV.out
  case hI=>exact OwnFrom.and (Own.from (fun s X Y row hs hg hr=>⟨cell_kept hs.1 hg hr,(frozen_kept hs.1 hg hr).trans hs.2.1,cell_kept hs.2.2.1 hg hr,cell_kept hs.2.2.2.1 hg hr,(frozen_kept hs.2.2.2.1 hg hr).trans hs.2.2.2.2.1,CK_cells hs.2.2.2.2.2.1 (kept_own hg hr),hs.2.2.2.2.2.2⟩) _) (ownFrom_below (Nat.le_refl _) HBX.out.size)
  case hIr=>exact OwnFrom.and (Own.from (fun s X Y row hs hg hr=>⟨cell_kept hs.1 hg hr,hs.2⟩) _) (ownFrom_below (Nat.le_refl _) HBX.out.size)
  case h0 =>
   have e5:=blk_new W2 (Obj.cells #[.int .i64 0] 3)
   have e5':=kA e5 (Obj.cells #[.pointer p] 26)
   have hbb:=bA (bA (Below.refl _ W2) (Obj.cells #[.int .i64 0] 3)) (Obj.cells #[.pointer p] 26)
   have hck:=CellsKept.below hbb
   refine ⟨⟨(bC e5' 0).trans rfl,bF e5' 0,hck _ _ q3,hck _ _ q4,?_,CK_cells hr1 hck,rfl⟩,HBX.out⟩
   exact (frozen_kept q4 (grown_of_below hbb none) (fun r e=>by cases e)).trans f4
  case hassign =>
   rintro l_ pre ⟨d,A3,c3⟩ W K hI hq hK
   dsimp only [encE]
   gi_wp2
   have hcells:=blk_new W (Obj.cells #[.int .i64 d.f0,.string d.f1,.string d.f2,.slice A3 d.f3.length c3,.string d.f4,.string d.f5] 34)
   have hbl:=bA (Below.refl _ W) (Obj.cells #[.int .i64 d.f0,.string d.f1,.string d.f2,.slice A3 d.f3.length c3,.string d.f4,.string d.f5] 34)
   have hck:=CellsKept.below hbl
   obtain ⟨⟨i1,i2,i3,i4,i5,i6,i7⟩,i8⟩:=hI
   refine hK _ _ ((KeepsOthers.alloc _ _).from _) (KpR.below hbl) ⟨⟨hck _ _ i1,(frozen_kept i1 (grown_of_below hbl none) (fun r e=>by cases e)).trans i2,hck _ _ i3,hck _ _ i4,(frozen_kept i4 (grown_of_below hbl none) (fun r e=>by cases e)).trans i5,CK_cells i6 hck,i7⟩,bA i8 _⟩ ⟨W.heap.size,rfl,⟨hq.1,hq.2.1,C_cells hq.2.2 hck⟩,(bC hcells 0).trans rfl,(bC hcells 1).trans rfl,(bC hcells 2).trans rfl,(bC hcells 3).trans rfl,(bC hcells 4).trans rfl,(bC hcells 5).trans rfl⟩
  case hAx =>
   intro x a' s_ X Y row hs hg hr
   have hk:=kept_own hg (fun r e=>(hr r e).2)
   obtain ⟨Bx,h0_,⟨hm_,h1_,h2_⟩,h3_,h4_,h5_,h6_,h7_,h8_⟩:=hs
   exact ⟨Bx,h0_,⟨hm_,h1_,C_cells h2_ hk⟩,hk _ _ h3_,hk _ _ h4_,hk _ _ h5_,hk _ _ h6_,hk _ _ h7_,hk _ _ h8_⟩
  case hdone =>
   rintro D xs W hD hS ⟨⟨i1,i2,i3,i4,i5,i6,i7⟩,i8⟩ hKD
   have hxl : xs.length = l.length:=by
    have h_:=congrArg List.length hS
    rw [List.length_map,HVK.out] at h_
    omega
   rw [hxl] at i1 i7
   rw [hS,List.take_length] at i7
   clear z1
   go_wp2_with (fail)
   have hKD':=(KeepsOthers.setCell W ⟨g4,0,none⟩ (.bool true)).same D _ hKD rfl
   refine ⟨by simp,.inl ⟨_,_,rfl,run_takeDeferred hKD',?_⟩⟩
   have hc5:=cell_kept (World.cell?_setCell_same' W ⟨g4,0,none⟩ (.bool true) (by rw [i4];rfl)) (grownBy_putObj' _ D (.deferred none)) (fun r e=>by cases e;exact ⟨_,hKD',rfl⟩)
   refine ⟨.bool true,?_,by rw [i7],(bT i8 (by have:=HG4.out;omega)).trans (belowK_b (w:=w) (Nat.le_refl _) _ D _ _ (by have:=HBX.out.size;omega) hKD' rfl rfl)⟩
   simp [results,Tryz.f21,go_sem,hc5]
  case hstop =>
   rintro D pre W hD hpre ⟨⟨i4,i6,i7⟩,i8⟩ hKD
   have hfalse : alike sm (valsM M) l = false:=by
    cases ha : alike sm (valsM M) l with
    | false=>rfl
    | true =>
     have h_:=alike_take sm pre.length _ _ ha
     obtain ⟨t,ht⟩:=hpre
     rw [← ht,List.take_append_of_le_length (by rw [List.length_map];exact Nat.le_refl _),List.take_of_length_le (by rw [List.length_map];exact Nat.le_refl _),i7] at h_
     cases h_
   gi_wp2
   refine ⟨by simp,.inl ⟨_,_,rfl,run_takeDeferred hKD,?_⟩⟩
   have hc5:=cell_kept i4 (grownBy_putObj' _ D (.deferred none)) (fun r e=>by cases e;exact ⟨_,hKD,rfl⟩)
   refine ⟨.bool false,?_,by rw [hfalse],i8.trans (belowK_b (w:=w) (Nat.le_refl _) W D _ _ (by have:=HBX.out.size;omega) hKD rfl rfl)⟩
   simp [results,Tryz.f21,go_sem,hc5]
  case hbody =>
   rintro l_ pre x a' W ⟨⟨i1,i2,i3,i4,i5,i6,i7⟩,i8⟩ ⟨Bx,rfl,⟨hm_,hq1,hq2⟩,b0,b1,b2,b3,b4,b5⟩ hlt
   have hj : pre.length < l.length:=by rw [HVK.out,hlen] at hlt;exact hlt
   have HJ:=As.mk hj
   obtain ⟨y,hy⟩ : ∃ y,y = l[pre.length]:=⟨_,rfl⟩
   obtain ⟨ad,Ay,cy,e_,y0,y1,y2,y3,y4,y5,hly,hCy⟩:=at_T34 i6 (pre.length : Int) (by omega) (by omega)
   rw [show rd_T34 l (pre.length : Int) = y by rw [hy];unfold rd_T34;rw [Int.toNat_natCast,List.getD_eq_getElem?_getD,List.getElem?_eq_getElem hj];rfl] at y0 y1 y2 y3 y4 y5 hly hCy
   rw [Int.toNat_natCast] at y0 y1 y2 y3 y4 y5
   subst e_
   have HF:=As.mk (HSM.out x.1 hm_ y (by rw [hy];exact List.getElem_mem hj))
   have hg1 : decide ((l.length : Int) ≤ (pre.length : Int)) = false:=decide_eq_false (by omega)
   have hg2 : ((l.length : Int) ≤ (pre.length : Int)) = False:=eq_false (by omega)
   have hg3 : ((pre.length : Int) < (l.length : Int)) = True:=eq_true (by omega)
   have hg4 : (pre.length < l.length) = True:=eq_true hj
   have hw1 : wrap64 ((pre.length : Int) + 1) = ((pre.length + 1 : Nat) : Int):=by rw [IntWalk.wrap64_in _ (by omega)];omega
   have HYV:=As.mk hy
   have hf2 : Fence.wide.fn 35:=trivial
   have hn7 : 1 ≤ 9 - 1 - 1:=by omega
   have HLY:=As.mk (show alike sm ((pre ++ [x]).map (·.1)) (l.take (pre ++ [x]).length) = sm x.1 y from by
    rw [List.map_append,List.length_append]
    have h_:=alike_snoc sm (pre.map (·.1)) l x.1 y (by rw [List.length_map,hy];exact List.getElem?_eq_getElem hj) (by rw [List.length_map];exact i7)
    rw [List.length_map] at h_
    exact h_)
   obtain ⟨bv,hbv⟩ : ∃ bv,bv = sm x.1 y:=⟨_,rfl⟩
   rw [← hbv] at HF HLY
   have HI8:=As.mk i8
   have HI6:=As.mk i6
   have HI7:=As.mk i7
   have HHLT:=As.mk hlt
   clear hy z1 hbv i6 i7 i8 hlt hr1 hs1
   gi_wp2
   refine start_round (m:=13) (S:=fun w'=>w'.cell? (⟨W2.heap.size,0,none⟩) = some (.int .i64 (pre.length : Int)) ∧ w'.cell? (⟨g3,0,none⟩) = some (.slice (some ad) l.length c0) ∧ w'.cell? (⟨Bx,0,none⟩) = some (.int .i64 x.1.f0) ∧ w'.cell? (⟨Bx,1,none⟩) = some (.string x.1.f1) ∧ w'.cell? (⟨Bx,2,none⟩) = some (.string x.1.f2) ∧ w'.cell? (⟨Bx,3,none⟩) = some (.slice x.2.1 x.1.f3.length x.2.2) ∧ w'.cell? (⟨Bx,4,none⟩) = some (.string x.1.f4) ∧ w'.cell? (⟨Bx,5,none⟩) = some (.string x.1.f5) ∧ w'.cell? (ad.add (pre.length * 6)) = some (.int .i64 y.f0) ∧ w'.cell? (⟨(ad.add (pre.length * 6)).block,(ad.add (pre.length * 6)).off + 1,none⟩) = some (.string y.f1) ∧ w'.cell? (⟨(ad.add (pre.length * 6)).block,(ad.add (pre.length * 6)).off + 2,none⟩) = some (.string y.f2) ∧ w'.cell? (⟨(ad.add (pre.length * 6)).block,(ad.add (pre.length * 6)).off + 3,none⟩) = some (.slice Ay y.f3.length cy) ∧ w'.cell? (⟨(ad.add (pre.length * 6)).block,(ad.add (pre.length * 6)).off + 4,none⟩) = some (.string y.f4) ∧ w'.cell? (⟨(ad.add (pre.length * 6)).block,(ad.add (pre.length * 6)).off + 5,none⟩) = some (.string y.f5)) (ds:=[10]) #[false,false,false,false,false,false,false,false,false,false,false,false,false] (by kernel_rfl) rfl rfl (by kernel_rfl) (fun h_=>by obtain ⟨_,_,h_⟩:=h_;exact h_) ⟨i1,i3,b0,b1,b2,b3,b4,b5,y0,y1,y2,y3,y4,y5⟩ (fun hHeld=>?_);refine with_tabW snapis.tab6 snapis.bits6 (fun HT_ HW_=>?_)
   refine take_ (i:=0) (N:=some 15) (v:=?_) (a':=?_) #[true,false,false,false,false,false,false,false,false,false,false,false,false] rfl rfl (take_ofW HT_.out HW_.out (by kernel_rfl)) (fun _ _ _ h=>h) (Or.inl ⟨by rfl,?_⟩) hHeld ?_ ?_
   rotate_left
   ·rintro w' ⟨s0,s1,s2,s3,s4,s5,s6,s7,s8,s9,s10,s11,s12,s13⟩
    go_simp
    with_reducible rfl
   rotate_left
   ·simp only [Act.put,List.setIfInBounds_toArray,List.set_cons_zero,List.set_cons_succ,i64_w,i32_w]
    rfl
   refine take_ (i:=1) (N:=some 16) (v:=?_) (a':=?_) #[true,true,false,false,false,false,false,false,false,false,false,false,false] rfl rfl (take_ofW HT_.out HW_.out (by kernel_rfl)) (fun _ _ _ h=>h) (Or.inl ⟨by rfl,?_⟩) hHeld ?_ ?_
   rotate_left
   ·rintro w' ⟨s0,s1,s2,s3,s4,s5,s6,s7,s8,s9,s10,s11,s12,s13⟩
    go_simp
    with_reducible rfl
   rotate_left
   ·simp only [Act.put,List.setIfInBounds_toArray,List.set_cons_zero,List.set_cons_succ,i64_w,i32_w]
    rfl
   refine pure_ (i:=2) (N:=some 17) (v:=?_) (a':=?_) #[true,true,true,false,false,false,false,false,false,false,false,false,false] rfl rfl (any_of HT_.out (by kernel_rfl)) (fun _ _ _ h=>h) (Or.inl ⟨by rfl,?_⟩) ?_ ?_
   rotate_left
   ·intro w'
    go_simp
    with_reducible rfl
   rotate_left
   ·simp only [Act.put,List.setIfInBounds_toArray,List.set_cons_zero,List.set_cons_succ,i64_w,i32_w]
    rfl
   refine pure_ (i:=3) (N:=some 18) (v:=?_) (a':=?_) #[true,true,true,true,false,false,false,false,false,false,false,false,false] rfl rfl (any_of HT_.out (by kernel_rfl)) (fun _ _ _ h=>h) (Or.inl ⟨by rfl,?_⟩) ?_ ?_
   rotate_left
   ·intro w'
    go_simp
    with_reducible rfl
   rotate_left
   ·simp only [Act.put,List.setIfInBounds_toArray,List.set_cons_zero,List.set_cons_succ,i64_w,i32_w]
    rfl
   refine pure_ (i:=4) (N:=some 19) (v:=?_) (a':=?_) #[true,true,true,true,true,false,false,false,false,false,false,false,false] rfl rfl (any_of HT_.out (by kernel_rfl)) (fun _ _ _ h=>h) (Or.inl ⟨by rfl,?_⟩) ?_ ?_
   rotate_left
   ·intro w'
    go_simp
    with_reducible rfl
   rotate_left
   ·simp only [Act.put,List.setIfInBounds_toArray,List.set_cons_zero,List.set_cons_succ,i64_w,i32_w]
    rfl
   refine take_ (i:=5) (N:=some 20) (v:=?_) (a':=?_) #[true,true,true,true,true,true,false,false,false,false,false,false,false] rfl rfl (take_ofW HT_.out HW_.out (by kernel_rfl)) (fun _ _ _ h=>h) (Or.inl ⟨by rfl,?_⟩) hHeld ?_ ?_
   rotate_left
   ·rintro w' ⟨s0,s1,s2,s3,s4,s5,s6,s7,s8,s9,s10,s11,s12,s13⟩
    go_simp
    with_reducible rfl
   rotate_left
   ·simp only [Act.put,List.setIfInBounds_toArray,List.set_cons_zero,List.set_cons_succ,i64_w,i32_w]
    rfl
   refine take_ (i:=6) (N:=some 21) (v:=?_) (a':=?_) #[true,true,true,true,true,true,true,false,false,false,false,false,false] rfl rfl (take_ofW HT_.out HW_.out (by kernel_rfl)) (fun _ _ _ h=>h) (Or.inl ⟨by rfl,?_⟩) hHeld ?_ ?_
   rotate_left
   ·rintro w' ⟨s0,s1,s2,s3,s4,s5,s6,s7,s8,s9,s10,s11,s12,s13⟩
    go_simp
    with_reducible rfl
   rotate_left
   ·simp only [Act.put,List.setIfInBounds_toArray,List.set_cons_zero,List.set_cons_succ,i64_w,i32_w]
    rfl
   refine take_ (i:=7) (N:=some 22) (v:=?_) (a':=?_) #[true,true,true,true,true,true,true,true,false,false,false,false,false] rfl rfl (take_ofW HT_.out HW_.out (by kernel_rfl)) (fun _ _ _ h=>h) (Or.inl ⟨by rfl,?_⟩) hHeld ?_ ?_
   rotate_left
   ·rintro w' ⟨s0,s1,s2,s3,s4,s5,s6,s7,s8,s9,s10,s11,s12,s13⟩
    go_simp
    with_reducible rfl
   rotate_left
   ·simp only [Act.put,List.setIfInBounds_toArray,List.set_cons_zero,List.set_cons_succ,i64_w,i32_w]
    rfl
   refine pure_ (i:=8) (N:=some 23) (v:=?_) (a':=?_) #[true,true,true,true,true,true,true,true,true,false,false,false,false] rfl rfl (any_of HT_.out (by kernel_rfl)) (fun _ _ _ h=>h) (Or.inl ⟨by rfl,?_⟩) ?_ ?_
   rotate_left
   ·intro w'
    go_simp
    with_reducible rfl
   rotate_left
   ·simp only [Act.put,List.setIfInBounds_toArray,List.set_cons_zero,List.set_cons_succ,i64_w,i32_w]
    rfl
   refine take_ (i:=9) (N:=some 24) (v:=?_) (a':=?_) #[true,true,true,true,true,true,true,true,true,true,false,false,false] rfl rfl (take_ofW HT_.out HW_.out (by kernel_rfl)) (fun _ _ _ h=>h) (Or.inl ⟨by rfl,?_⟩) hHeld ?_ ?_
   rotate_left
   ·rintro w' ⟨s0,s1,s2,s3,s4,s5,s6,s7,s8,s9,s10,s11,s12,s13⟩
    go_simp
    with_reducible rfl
   rotate_left
   ·simp only [Act.put,List.setIfInBounds_toArray,List.set_cons_zero,List.set_cons_succ,i64_w,i32_w]
    rfl
   refine last_ (i:=10) (N:=some 25) #[true,true,true,true,true,true,true,true,true,true,true,false,false] rfl rfl (one_of HT_.out (by kernel_rfl)) (by decide) (fun K hK=>?_)
   refine goes_ Tryz.func35 (by kernel_rfl) rfl #[.agg #[.int .i64 x.1.f0,.string x.1.f1,.string x.1.f2,.slice x.2.1 x.1.f3.length x.2.2,.string x.1.f4,.string x.1.f5],.agg #[.int .i64 y.f0,.string y.f1,.string y.f2,.slice Ay y.f3.length cy,.string y.f4,.string y.f5]] (by rfl) rfl rfl (by (try simp only [List.map_toArray,List.map_cons,List.map_nil]);first | done | rfl | (simp only [List.length_drop,List.length_take];rfl)) ?_
   with_reducible refine (r07_Same.calls k _ _ _ _ _ _ _ _ _ _ _ _ _ _ _ _ bv _ (Kd.C_below hq2 (bD (Below.refl _ W))) hq1 (Kd.C_below hCy (bD (Below.refl _ W))) hly HF.out).mono ?_
   rintro er w5 ⟨rfl,hw5⟩
   refine ⟨_,rfl,?_⟩
   refine hK.out _ _ ?_
   clear hK K
   refine norm_ (a':=?_) ?_ ?_
   rotate_left
   ·show Act.put _ (some 25) _ = _
    simp only [Act.put,List.setIfInBounds_toArray,List.set_cons_zero,List.set_cons_succ,i64_w,i32_w]
    rfl
   refine pure_ (i:=11) (N:=some 26) (v:=?_) (a':=?_) #[true,true,true,true,true,true,true,true,true,true,true,true,false] rfl rfl (any_of HT_.out (by kernel_rfl)) (fun _ _ _ h=>h) (Or.inl ⟨by rfl,?_⟩) ?_ ?_
   rotate_left
   ·intro w'
    go_simp
    with_reducible rfl
   rotate_left
   ·simp only [Act.put,List.setIfInBounds_toArray,List.set_cons_zero,List.set_cons_succ,i64_w,i32_w]
    rfl
   refine pure_ (i:=12) (N:=some 27) (v:=?_) (a':=?_) #[true,true,true,true,true,true,true,true,true,true,true,true,true] rfl rfl (any_of HT_.out (by kernel_rfl)) (fun _ _ _ h=>h) (Or.inl ⟨by rfl,?_⟩) ?_ ?_
   rotate_left
   ·intro w'
    go_simp
    with_reducible rfl
   rotate_left
   ·simp only [Act.put,List.setIfInBounds_toArray,List.set_cons_zero,List.set_cons_succ,i64_w,i32_w]
    rfl
   refine done_ (done_of HT_.out (by kernel_rfl)) ?_
   have hB5 : Below W.heap.size W w5:=(bD (Below.refl _ W)).trans hw5
   have hck5:=CellsKept.below hB5
   have hj1:=hck5 _ _ i1
   have hj2:=(frozen_kept i1 (grown_of_below hB5 none) (fun r e=>by cases e)).trans i2
   have hj3:=hck5 _ _ i3
   have hj4:=hck5 _ _ i4
   have hj5:=(frozen_kept i4 (grown_of_below hB5 none) (fun r e=>by cases e)).trans i5
   have HB5:=As.mk hB5
   have HK5:=As.mk (KeepsOthers.of_grownBy (grown_of_below hB5 none) (fun j o e _=>by cases e))
   have HB8:=As.mk (HI8.out.trans (hB5.mono HI8.out.size))
   have HN:=As.mk (show g3 ≠ W2.heap.size ∧ g4 ≠ W2.heap.size from ⟨Nat.ne_of_lt (cell_lt q3),Nat.ne_of_lt (cell_lt q4)⟩)
   have HGE:=As.mk (show w.heap.size ≤ W2.heap.size ∧ w.heap.size ≤ g4 from ⟨HB.out.size,by have:=HG4.out;omega⟩)
   clear hw5 hB5 hck5 i1 i2 i3 i4 i5 b0 b1 b2 b3 b4 b5 y0 y1 y2 y3 y4 y5 hCy hq2 q3 q4 f4
   cases bv with
   | false =>
    gi_wp2
    refine ⟨(HK5.out.trans (KeepsOthers.setCell _ _ _)).from _,⟨World.cell?_setCell_same' _ _ _ (by rw [hj4];rfl),by rw [List.length_append];exact HJ.out,HLY.out⟩,bT HB8.out HGE.out.2⟩
   | true =>
    obtain ⟨a1,a2,a3,a4,a5,a6,a7⟩:=is_next (c0:=c0) (l:=l) ((pre.length : Int) + 1) _ (next_len pre x) hj1 hj2 hj3 hj4 hj5 HN.out HR0.out HB8.out HGE.out.1
    have a8:=(KpR.below HB5.out).trans (KpR.set (XM:=fun _=>False) (.int .i64 ((pre.length : Int) + 1)) hj1 rfl)
    have a9 : KeepsOthers W (w5.setCell ⟨W2.heap.size,0,none⟩ (.int .i64 ((pre.length : Int) + 1))):=HK5.out.trans (KeepsOthers.setCell _ _ _)
    gi_wp2
    exact ⟨a9.from _,a8,⟨a1,a2,a3,a4,a5,a6,HLY.out⟩,a7⟩
end Go.Proofs.YtmlebgikdegjjaaGreatDoor.Hd
